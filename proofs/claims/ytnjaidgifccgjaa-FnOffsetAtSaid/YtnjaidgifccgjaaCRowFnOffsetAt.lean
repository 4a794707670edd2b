/- Texts of these proofs put together: DrB, LvA, LvE, LvH, KitC, DrC, DrD, LvB, LvF, LvG, LvI, LvJ, LawFnOffsetAt, RowFnOffsetAt. No condition. -/
import Derived.Test.YtnjaidgifccgjaaM5
import Derived.Test.YtnjaidgifccgjaaM2
import Derived.Test.YtnjaidgifccgjaaM1
import Derived.Test.YtnjaidgifccgjaaM3
set_option linter.unusedVariables false
set_option linter.unusedSimpArgs false
/- Walks: drawn memories, views of memories, values. -/
namespace Go.Proofs.Ytnjaidgifccgjaa
open Go.RowKit
set_option linter.unusedVariables false
set_option maxRecDepth 100000

theorem Ints.len_eq {w : World} {lo : Nat} {p : Option Addr} {n r : Nat} {s : List Int} (h : Ints w lo (.slice p n r) s) : n = s.length := by
  obtain ⟨a, c, e⟩ := h.form; simp at e; exact e.2.1
def PMem (rb k : Nat) (w : World) (e : Ending) (w' : World) : Prop := ∃ v xs, e = .returned v ∧ OwnI w' w.heap.size v xs ∧ xs.length ≤ 60 ∧ Rd w' rb k ∧ Chg rb (rb + 1) w w'
set_option maxHeartbeats 3200000 in
theorem someMemory_c (rb k : Nat) (w : World) (hr : Rd w rb k) (hk : k ≤ 700000) :
    Calls Try.prog 101 #[.pointer (some ⟨rb, 0, none⟩)] w (PMem rb (k + 70) w) := by
  have hlt := hr.lt
  go_enter Try.func101, Try.ntmps101
  go_wp2_with fail
  refine (oneLit_c _ _ _ rb _ _ (by repeat (first | (with_reducible exact hr) | (with_reducible apply Rd.drewN) | (with_reducible apply Rd.drew) | (with_reducible apply Rd.alloc) | ((with_reducible apply Rd.set2); (· first | assumption | (simp; omega) | (simp; done) | omega)))) (by omega) (by rfl) (by rfl) (by constructor <;> simp) (by first | rfl | simp)).mono ?_
  rintro e w1 ⟨n, rfl, hn, hr1, hC1⟩
  have hn' : 5 ≤ n ∧ n ≤ 60 := by simp [litL] at hn; omega
  clear hn
  obtain ⟨m, rfl⟩ : ∃ m : Nat, n = m := ⟨n.toNat, by omega⟩
  have ho1 : OwnI w1 w.heap.size (.slice (some ⟨w.heap.size, 0, none⟩) 0 0) [] := ((OwnI.lit0 w w.heap.size (Nat.le_refl _)).ext (by repeat (first | exact Ext.refl _ | assumption | apply Ext.drewN | apply Ext.drew | apply Ext.alloc))).chg hC1 hlt
  have hX1 : Chg rb (rb + 1) w w1 := Chg.trans (Chg.of_ext (by repeat (first | exact Ext.refl _ | assumption | apply Ext.drewN | apply Ext.drew | apply Ext.alloc))) hC1
  clear hC1
  go_wp2_with fail
  go_loopw [3, 4] (fun v i wr => ∃ (q m : Nat) (xs : List Int), i = .int .i64 m ∧ (xs.length + m ≤ 60 ∧ 1 ≤ xs.length + m) ∧ OwnI wr w.heap.size v xs ∧ Rd wr rb q ∧ q + m ≤ k + 62 ∧ Chg rb (rb + 1) w wr) (fun _ i _ => (intOf i).toNat)
  case atStart => exact ⟨k + 1, m, [], rfl, by simp; omega, ho1, hr1, by omega, hX1⟩
  case round =>
    obtain ⟨q, m, xs, rfl, hl, ho, hr, hq, hX⟩ := hrel
    have hz : w.heap.size ≤ wr.heap.size := hX.size
    cases m with
    | succ m =>
      have hI : (0 : Int) < ((m + 1 : Nat) : Int) := by omega
      have hI2 : ((m + 1 : Nat) : Int) - 1 = (m : Int) := by omega
      go_wp2_with fail
      refine (pick1_c _ rb _ _ hr (by omega) (by omega)).mono ?_
      rintro e w2 ⟨x, rfl, hx, hr2, hC2⟩
      have ho2 := ho.chg hC2 hlt
      have hX2 : Chg rb (rb + 1) w w2 := hX.trans hC2
      have hz2 : w.heap.size ≤ w2.heap.size := hX2.size
      clear hC2 hX ho hr hx
      replace ho2 := Lib.hid ho2
      replace hX2 := Lib.hid hX2
      replace hr2 := Lib.hid hr2
      go_wp2_with (at_builtin; refine wpList_app rfl (.tmp 13) (.tmp 16) rfl rfl rfl (ho2.out.ext ((Ext.refl _).alloc _)) (Ints.one _ 0 _ (Nat.zero_le _)) (by simp only [List.length_cons, List.length_nil]; omega) (by simp; omega) ?_; intro v' w3 ho3 _ hb3 _; replace ho3 := Lib.hid ho3)
      go_roundw
      case rel => exact ⟨q + 1, m, xs ++ [x], by first | rfl | go_num, by simp; omega, ho3.out, (hr2.out.alloc _).below hb3 hlt, by omega, Rch.below (hX2.out.ext (by repeat (first | exact Ext.refl _ | assumption | apply Ext.drewN | apply Ext.drew | apply Ext.alloc))) hb3⟩
      case measure => simp [intOf]
    | zero =>
      have hne : xs ≠ [] := by intro h; subst h; simp at hl
      obtain ⟨g, n2, c, rfl, hn2, G, G'⟩ := ho.row2 hne
      have hlx : 0 < xs.length := by omega
      have hnI : Hid ((0 : Int) < (n2 : Int)) := Lib.hid (by have := hn2.out; omega)
      replace hne := Lib.hid hne
      go_wp2_with fail
      refine (pick1_c _ rb _ _ hr (by omega) (by omega)).mono ?_
      rintro e w2 ⟨x, rfl, hx, hr2, hC2⟩
      have ho2 := ho.chg hC2 hlt
      have hX2 : Chg rb (rb + 1) w w2 := hX.trans hC2
      clear hC2 hX ho hr hx
      by_cases hx0 : x = 0
      · subst hx0
        go_wp2_with fail
        refine (oneLit_c _ _ _ rb _ _ (by exact hr2) (by omega) (by rfl) (by rfl) (by constructor <;> simp) (by first | rfl | simp)).mono ?_
        rintro e w3 ⟨y, rfl, hy, hr3, hC3⟩
        have ho3 := (ho2.ext (by repeat (first | exact Ext.refl _ | assumption | apply Ext.drewN | apply Ext.drew | apply Ext.alloc))).chg hC3 hlt
        have hX3 : Chg rb (rb + 1) w w3 := (hX2.ext (by repeat (first | exact Ext.refl _ | assumption | apply Ext.drewN | apply Ext.drew | apply Ext.alloc))).trans hC3
        have hz3 := hX3.size
        clear hC3 hX2 ho2 hr2 hy
        obtain ⟨A1, A2⟩ := ho3.cell 0 hlx
        have hnI' := hnI.out
        replace ho3 := Lib.hid ho3
        go_wp2_with fail
        go_ret
        exact ⟨_, xs.set 0 y, rfl, ho3.out.set 0 y hlx, by simp; omega, (Rd.set2 (by simp; omega) hr3).mono (by omega), Rch.set hX3 (by simp; omega) _⟩
      · have hxe : (x == 0) = false := by simpa using hx0
        replace hx0 := Lib.hid hx0
        replace ho2 := Lib.hid ho2
        go_wp2_with fail
        go_ret
        exact ⟨_, xs, rfl, ho2.out, by omega, hr2.mono (by omega), hX2⟩

/-- a memory and a view are drawn -/
def PMV (lo : Nat) (e : Ending) (w' : World) : Prop := ∃ (mem : List Int) (p0 : Option Addr) (n0 r0 : Nat) (b : Int) (s t : List Int) (p1 p2 : Option Addr) (n1 r1 n2 r2 : Nat), e = .returned (.tuple #[.slice p0 n0 r0, .agg #[.int .i64 b, .slice p1 n1 r1, .slice p2 n2 r2]]) ∧ mem.length ≤ 60 ∧
  Ints w' lo (.slice p0 n0 r0) mem ∧ Ints w' lo (.slice p1 n1 r1) s ∧ Ints w' lo (.slice p2 n2 r2) t ∧ s.length ≤ 4 ∧ t.length ≤ 5
set_option maxHeartbeats 3200000 in
theorem memView_c (rb k : Nat) (w : World) (hr : Rd w rb k) (hk : k ≤ 600000) :
    Calls Try.prog 81 #[.pointer (some ⟨rb, 0, none⟩)] w (fun e w' => PMV w.heap.size e w' ∧ Rd w' rb (k + 280) ∧ Chg rb (rb + 1) w w') := by
  have hlt := hr.lt
  go_enter Try.func81, Try.ntmps81
  go_wp2_with fail
  refine (someMemory_c rb k _ (hr.alloc _) (by omega)).mono ?_
  rintro e w1 ⟨v, mem, rfl, o0, hml, hr1, C1⟩
  have i0 := (o0.ints (by omega)).lower (show w.heap.size + 1 ≤ _ by simp)
  clear o0
  obtain ⟨p0, n0, r0, rfl⟩ := i0.any
  have E0 : Ext w (w.alloc (.cells #[.int .i64 0, .slice none 0 0, .slice none 0 0] 25)) := (by repeat (first | (with_reducible assumption) | (with_reducible refine Ext.setCell ?_ (by first | (simp; done) | (simp; omega) | omega) _) | (with_reducible apply Ext.alloc) | (with_reducible apply Ext.drew) | (with_reducible apply Ext.drewN) | (with_reducible exact Ext.refl _)))
  have X1 : Chg rb (rb + 1) w w1 := (Chg.of_ext E0).trans C1
  have q0 : w1.cell? ⟨w.heap.size, 0, none⟩ = some (.int .i64 0) := C1.cell (.inr (by omega)) (by simp)
  have q1 : w1.cell? ⟨w.heap.size, 1, none⟩ = some (.slice none 0 0) := C1.cell (.inr (by omega)) (by simp)
  have q2 : w1.cell? ⟨w.heap.size, 2, none⟩ = some (.slice none 0 0) := C1.cell (.inr (by omega)) (by simp)
  have f0 : w1.frozen? ⟨w.heap.size, 0, none⟩ = false := C1.frzO (.inr (by omega)) (by simp) (by simp)
  have f1 : w1.frozen? ⟨w.heap.size, 1, none⟩ = false := C1.frzO (.inr (by omega)) (by simp) (by simp)
  have f2 : w1.frozen? ⟨w.heap.size, 2, none⟩ = false := C1.frzO (.inr (by omega)) (by simp) (by simp)
  have z1 : w.heap.size < w1.heap.size := World.block_lt_of_cell? _ _ q0
  clear C1 E0 hr
  go_wp2_with fail
  refine (someView_c _ _ _ hr1 (by omega)).mono ?_
  rintro e w2 ⟨b, s, t, p1, p2, n1, r1, n2, r2, rfl, i1, i2, l1, l2, hr2, C⟩
  have X2 : Chg rb (rb + 1) w w2 := X1.trans C
  replace i0 := i0.chg C (by omega)
  replace q0 := C.cell (.inr (by omega)) q0
  replace q1 := C.cell (.inr (by omega)) q1
  replace q2 := C.cell (.inr (by omega)) q2
  replace f0 := C.frzO (.inr (by omega)) (by omega) f0
  replace f1 := C.frzO (.inr (by omega)) (by omega) f1
  replace f2 := C.frzO (.inr (by omega)) (by omega) f2
  have z2 : w.heap.size < w2.heap.size := World.block_lt_of_cell? _ _ q0
  have z12 := C.size
  clear C X1 hr1
  go_wp2_with fail
  refine bodyPost_ret (v := .tuple #[.slice p0 n0 r0, .agg #[.int .i64 b, .slice p1 n1 r1, .slice p2 n2 r2]]) (by simp only [results, Try.results81]; go_simp) rfl ?_
  have K := Chg.three (lo := w.heap.size) w2 (.int .i64 b) (.slice p1 n1 r1) (.slice p2 n2 r2)
  replace i1 := i1.chg K (by omega)
  replace i2 := i2.chg K (by omega)
  exact ⟨⟨mem, p0, n0, r0, b, s, t, p1, p2, n1, r1, n2, r2, rfl, hml, (i0.chg K (by omega)).lower (by omega), i1.lower (by omega), i2.lower (by omega), l1, l2⟩, (Rd.set2 (by simp; omega) (Rd.set2 (by simp; omega) (Rd.set2 (by simp; omega) hr2))).mono (by omega), Rch.set (Rch.set (Rch.set X2 (by simp) _) (by simp) _) (by simp) _⟩
def PMemView (w : World) (e : Ending) (w' : World) : Prop := PMV w.heap.size e w' ∧ Ext w w'

set_option maxHeartbeats 3200000 in
theorem drawLoadView_c (a : Option Addr) (n cap : Nat) (w : World) (hb : BysIn w a n cap) :
    Calls Try.prog 33 #[.slice a n cap] w (PMemView w) := by
  go_enter Try.func33, Try.ntmps33
  go_wp2_with fail
  refine (newReader_c a n cap _ (hb.ext (by repeat (first | (with_reducible assumption) | (with_reducible refine Ext.setCell ?_ (by first | (simp; done) | (simp; omega) | omega) _) | (with_reducible apply Ext.alloc) | (with_reducible apply Ext.drew) | (with_reducible apply Ext.drewN) | (with_reducible exact Ext.refl _))))).mono ?_
  rintro e w1 ⟨rfl, hr, x1⟩
  simp only [World.size_alloc] at hr
  have X1 : Ext w w1 := Ext.trans (by repeat (first | (with_reducible assumption) | (with_reducible refine Ext.setCell ?_ (by first | (simp; done) | (simp; omega) | omega) _) | (with_reducible apply Ext.alloc) | (with_reducible apply Ext.drew) | (with_reducible apply Ext.drewN) | (with_reducible exact Ext.refl _))) x1
  have q0 : w1.cell? ⟨w.heap.size, 0, none⟩ = some (.int .i64 0) := x1.cell (by simp)
  have q1 : w1.cell? ⟨w.heap.size, 1, none⟩ = some (.slice none 0 0) := x1.cell (by simp)
  have q2 : w1.cell? ⟨w.heap.size, 2, none⟩ = some (.slice none 0 0) := x1.cell (by simp)
  have f0 : w1.frozen? ⟨w.heap.size, 0, none⟩ = false := x1.frz (by simp) (by simp)
  have f1 : w1.frozen? ⟨w.heap.size, 1, none⟩ = false := x1.frz (by simp) (by simp)
  have f2 : w1.frozen? ⟨w.heap.size, 2, none⟩ = false := x1.frz (by simp) (by simp)
  have z1 := hr.lt
  clear hb x1
  go_wp2_with fail
  refine (memView_c _ 0 _ hr (by omega)).mono ?_
  rintro e w2 ⟨⟨mem, p0, n0, r0, b, s, t, p1, p2, n1, r1, n2, r2, rfl, hml, i0, i1, i2, l1, l2⟩, hr2, C⟩
  have X2 : Ext w w2 := Rch.toExt' C (by omega) X1
  replace q0 := C.cell (.inl (by omega)) q0
  replace q1 := C.cell (.inl (by omega)) q1
  replace q2 := C.cell (.inl (by omega)) q2
  replace f0 := C.frzO (.inl (by omega)) (by omega) f0
  replace f1 := C.frzO (.inl (by omega)) (by omega) f1
  replace f2 := C.frzO (.inl (by omega)) (by omega) f2
  have z2 : w.heap.size < w2.heap.size := World.block_lt_of_cell? _ _ q0
  clear C X1 hr
  go_wp2_with fail
  refine bodyPost_ret (v := .tuple #[.slice p0 n0 r0, .agg #[.int .i64 b, .slice p1 n1 r1, .slice p2 n2 r2]]) (by simp only [results, Try.results33]; go_simp) rfl ?_
  have K := Chg.three (lo := w.heap.size) w2 (.int .i64 b) (.slice p1 n1 r1) (.slice p2 n2 r2)
  replace i0 := i0.chg K (by omega)
  replace i1 := i1.chg K (by omega)
  replace i2 := i2.chg K (by omega)
  have X9 : Ext w (((w2.setCell ⟨w.heap.size, 0, none⟩ (.int .i64 b)).setCell ⟨w.heap.size, 1, none⟩ (.slice p1 n1 r1)).setCell ⟨w.heap.size, 2, none⟩ (.slice p2 n2 r2)) := Ext.chg (lo := w.heap.size) (hi := w.heap.size + 1) X2 K (Nat.le_refl _)
  exact ⟨⟨mem, p0, n0, r0, b, s, t, p1, p2, n1, r1, n2, r2, rfl, hml, i0.lower (by omega), i1.lower (by omega), i2.lower (by omega), l1, l2⟩, X9⟩

set_option maxHeartbeats 3200000 in
theorem drawSumView_c (a : Option Addr) (n cap : Nat) (w : World) (hb : BysIn w a n cap) :
    Calls Try.prog 48 #[.slice a n cap] w (PMemView w) := by
  go_enter Try.func48, Try.ntmps48
  go_wp2_with fail
  refine (newReader_c a n cap _ (hb.ext (by repeat (first | (with_reducible assumption) | (with_reducible refine Ext.setCell ?_ (by first | (simp; done) | (simp; omega) | omega) _) | (with_reducible apply Ext.alloc) | (with_reducible apply Ext.drew) | (with_reducible apply Ext.drewN) | (with_reducible exact Ext.refl _))))).mono ?_
  rintro e w1 ⟨rfl, hr, x1⟩
  simp only [World.size_alloc] at hr
  have X1 : Ext w w1 := Ext.trans (by repeat (first | (with_reducible assumption) | (with_reducible refine Ext.setCell ?_ (by first | (simp; done) | (simp; omega) | omega) _) | (with_reducible apply Ext.alloc) | (with_reducible apply Ext.drew) | (with_reducible apply Ext.drewN) | (with_reducible exact Ext.refl _))) x1
  have q0 : w1.cell? ⟨w.heap.size, 0, none⟩ = some (.int .i64 0) := x1.cell (by simp)
  have q1 : w1.cell? ⟨w.heap.size, 1, none⟩ = some (.slice none 0 0) := x1.cell (by simp)
  have q2 : w1.cell? ⟨w.heap.size, 2, none⟩ = some (.slice none 0 0) := x1.cell (by simp)
  have f0 : w1.frozen? ⟨w.heap.size, 0, none⟩ = false := x1.frz (by simp) (by simp)
  have f1 : w1.frozen? ⟨w.heap.size, 1, none⟩ = false := x1.frz (by simp) (by simp)
  have f2 : w1.frozen? ⟨w.heap.size, 2, none⟩ = false := x1.frz (by simp) (by simp)
  have z1 := hr.lt
  clear hb x1
  go_wp2_with fail
  refine (memView_c _ 0 _ hr (by omega)).mono ?_
  rintro e w2 ⟨⟨mem, p0, n0, r0, b, s, t, p1, p2, n1, r1, n2, r2, rfl, hml, i0, i1, i2, l1, l2⟩, hr2, C⟩
  have X2 : Ext w w2 := Rch.toExt' C (by omega) X1
  replace q0 := C.cell (.inl (by omega)) q0
  replace q1 := C.cell (.inl (by omega)) q1
  replace q2 := C.cell (.inl (by omega)) q2
  replace f0 := C.frzO (.inl (by omega)) (by omega) f0
  replace f1 := C.frzO (.inl (by omega)) (by omega) f1
  replace f2 := C.frzO (.inl (by omega)) (by omega) f2
  have z2 : w.heap.size < w2.heap.size := World.block_lt_of_cell? _ _ q0
  clear C X1 hr
  go_wp2_with fail
  refine bodyPost_ret (v := .tuple #[.slice p0 n0 r0, .agg #[.int .i64 b, .slice p1 n1 r1, .slice p2 n2 r2]]) (by simp only [results, Try.results48]; go_simp) rfl ?_
  have K := Chg.three (lo := w.heap.size) w2 (.int .i64 b) (.slice p1 n1 r1) (.slice p2 n2 r2)
  replace i0 := i0.chg K (by omega)
  replace i1 := i1.chg K (by omega)
  replace i2 := i2.chg K (by omega)
  have X9 : Ext w (((w2.setCell ⟨w.heap.size, 0, none⟩ (.int .i64 b)).setCell ⟨w.heap.size, 1, none⟩ (.slice p1 n1 r1)).setCell ⟨w.heap.size, 2, none⟩ (.slice p2 n2 r2)) := Ext.chg (lo := w.heap.size) (hi := w.heap.size + 1) X2 K (Nat.le_refl _)
  exact ⟨⟨mem, p0, n0, r0, b, s, t, p1, p2, n1, r1, n2, r2, rfl, hml, i0.lower (by omega), i1.lower (by omega), i2.lower (by omega), l1, l2⟩, X9⟩

end Go.Proofs.Ytnjaidgifccgjaa

/- Walks: ValidView, FitsIn, BoundsOf. -/
namespace Go.Proofs.Ytnjaidgifccgjaa
open Go.RowKit
set_option linter.unusedVariables false
set_option maxRecDepth 100000


theorem areCells_c (x : Int) (w : World) : Calls Try.prog 60 #[.int .i64 x] w fun e w' => e = .returned (.bool (inB 0 60 x)) ∧ w = w' := by
  by_cases h : 0 ≤ x
  · go_enter Try.func60, Try.ntmps60
    go_wp2_with fail
    go_ret
    exact ⟨by simp [inB, h], rfl⟩
  · have h' : x < 0 := by omega
    go_enter Try.func60, Try.ntmps60
    go_wp2_with fail
    go_ret
    exact ⟨by simp [inB]; intro; omega, rfl⟩
theorem min_lib (l : List Int) : Lib.minOf l = minL l := by cases l <;> rfl
theorem max_lib (l : List Int) : Lib.maxOf l = maxL l := by cases l <;> rfl
theorem min_c (xs : List Int) (v : Value) (w : World) (lo : Nat) (h : Ints w lo v xs) (hn : xs ≠ []) : Calls Try.prog 67 #[v] w fun e w' => e = .returned (.int .i64 (minL xs)) ∧ w = w' := by
  obtain ⟨a, cap, rfl, h1, h2, ⟨h3, h3'⟩, h4⟩ := h
  have hpos : 0 < xs.length := by cases xs <;> simp_all
  obtain ⟨b, off, rfl, _⟩ := h4 0 hpos
  refine (Try.slices_Min_int b off xs.length cap xs w hpos (Nat.le_refl _) (by omega) (fun j hj => by obtain ⟨b', off', he, _, hc, _⟩ := h4 j hj; cases he; exact hc)).mono ?_
  rintro e w' ⟨rfl, rfl⟩
  exact ⟨by rw [List.take_length, min_lib], rfl⟩
theorem max_c (xs : List Int) (v : Value) (w : World) (lo : Nat) (h : Ints w lo v xs) (hn : xs ≠ []) : Calls Try.prog 68 #[v] w fun e w' => e = .returned (.int .i64 (maxL xs)) ∧ w = w' := by
  obtain ⟨a, cap, rfl, h1, h2, ⟨h3, h3'⟩, h4⟩ := h
  have hpos : 0 < xs.length := by cases xs <;> simp_all
  obtain ⟨b, off, rfl, _⟩ := h4 0 hpos
  refine (Try.slices_Max_int b off xs.length cap xs w hpos (Nat.le_refl _) (by omega) (fun j hj => by obtain ⟨b', off', he, _, hc, _⟩ := h4 j hj; cases he; exact hc)).mono ?_
  rintro e w' ⟨rfl, rfl⟩
  exact ⟨by rw [List.take_length, max_lib], rfl⟩
def fitA (b : Int) (s t : List Int) (x : Int) : Bool := viewB b s t && (inB 0 60 x && fitB b s t x)
set_option maxHeartbeats 1600000 in
theorem implValidView_c (b1 : Int) (u1 v1 : Value) (s1 t1 : List Int) (w : World) (l1 m1 : Nat) (h1 : Ints w l1 u1 s1) (k1 : Ints w m1 v1 t1) :
    Calls Try.prog 16 #[.agg #[.int .i64 b1, u1, v1]] w (fun e w' => e = .returned (.bool (viewB b1 s1 t1)) ∧ Ext w w') := by
  obtain ⟨a1, cp1, rfl⟩ := h1.form
  obtain ⟨a2, cp2, rfl⟩ := k1.form
  go_enter Try.func16, Try.ntmps16
  go_wp2_with fail
  refine (isView_c b1 _ _ s1 t1 _ l1 m1 (h1.ext (by repeat (first | (with_reducible assumption) | (with_reducible refine Ext.setCell ?_ (by first | (simp; done) | (simp; omega) | omega) _) | (with_reducible apply Ext.alloc) | (with_reducible apply Ext.drew) | (with_reducible apply Ext.drewN) | (with_reducible exact Ext.refl _)))) (k1.ext (by repeat (first | (with_reducible assumption) | (with_reducible refine Ext.setCell ?_ (by first | (simp; done) | (simp; omega) | omega) _) | (with_reducible apply Ext.alloc) | (with_reducible apply Ext.drew) | (with_reducible apply Ext.drewN) | (with_reducible exact Ext.refl _))))).mono ?_
  rintro e w1 ⟨rfl, xw1⟩
  have Lw1 : Ext w w1 := Ext.trans (by repeat (first | (with_reducible assumption) | (with_reducible refine Ext.setCell ?_ (by first | (simp; done) | (simp; omega) | omega) _) | (with_reducible apply Ext.alloc) | (with_reducible apply Ext.drew) | (with_reducible apply Ext.drewN) | (with_reducible exact Ext.refl _))) xw1
  have Xw1 : Ext w w1 := Lw1
  have va0 : w1.cell? ⟨w.heap.size, 0, none⟩ = some (.int .i64 b1) := xw1.cell (by first | (simp; done) | ((repeat rw [World.cell?_alloc_lt _ _ _ (by simp <;> omega)]); simp; done) | (go_simp; done))
  have va1 : w1.cell? ⟨w.heap.size, 1, none⟩ = some (.slice a1 s1.length cp1) := xw1.cell (by first | (simp; done) | ((repeat rw [World.cell?_alloc_lt _ _ _ (by simp <;> omega)]); simp; done) | (go_simp; done))
  have va2 : w1.cell? ⟨w.heap.size, 2, none⟩ = some (.slice a2 t1.length cp2) := xw1.cell (by first | (simp; done) | ((repeat rw [World.cell?_alloc_lt _ _ _ (by simp <;> omega)]); simp; done) | (go_simp; done))
  have z_va : w.heap.size < w1.heap.size := World.block_lt_of_cell? _ _ va0
  have s_w1 : w.heap.size ≤ w1.heap.size := Xw1.size
  clear xw1
  go_wp2_with fail
  go_ret
  exact ⟨rfl, Xw1.trans (by repeat (first | (with_reducible assumption) | (with_reducible refine Ext.setCell ?_ (by first | (simp; done) | (simp; omega) | omega) _) | (with_reducible apply Ext.alloc) | (with_reducible apply Ext.drew) | (with_reducible apply Ext.drewN) | (with_reducible exact Ext.refl _)))⟩

set_option maxHeartbeats 1600000 in
theorem implFitsIn_c (b1 : Int) (u1 v1 : Value) (s1 t1 : List Int) (x : Int) (w : World) (l1 m1 : Nat) (h1 : Ints w l1 u1 s1) (k1 : Ints w m1 v1 t1) :
    Calls Try.prog 14 #[.agg #[.int .i64 b1, u1, v1], .int .i64 x] w (fun e w' => e = .returned (.bool (fitA b1 s1 t1 x)) ∧ Ext w w') := by
  obtain ⟨a1, cp1, rfl⟩ := h1.form
  obtain ⟨a2, cp2, rfl⟩ := k1.form
  cases ha : viewB b1 s1 t1
  · have hr : Hid (fitA b1 s1 t1 x = false) := Lib.hid (by unfold fitA; rw [ha]; rfl)
    replace ha := Lib.hid ha
    go_enter Try.func14, Try.ntmps14
    go_wp2_with fail
    refine (isView_c b1 _ _ s1 t1 _ l1 m1 (h1.ext (by repeat (first | (with_reducible assumption) | (with_reducible refine Ext.setCell ?_ (by first | (simp; done) | (simp; omega) | omega) _) | (with_reducible apply Ext.alloc) | (with_reducible apply Ext.drew) | (with_reducible apply Ext.drewN) | (with_reducible exact Ext.refl _)))) (k1.ext (by repeat (first | (with_reducible assumption) | (with_reducible refine Ext.setCell ?_ (by first | (simp; done) | (simp; omega) | omega) _) | (with_reducible apply Ext.alloc) | (with_reducible apply Ext.drew) | (with_reducible apply Ext.drewN) | (with_reducible exact Ext.refl _))))).mono ?_
    rintro e w1 ⟨rfl, xw1⟩
    have Lw1 : Ext w w1 := Ext.trans (by repeat (first | (with_reducible assumption) | (with_reducible refine Ext.setCell ?_ (by first | (simp; done) | (simp; omega) | omega) _) | (with_reducible apply Ext.alloc) | (with_reducible apply Ext.drew) | (with_reducible apply Ext.drewN) | (with_reducible exact Ext.refl _))) xw1
    have Xw1 : Ext w w1 := Lw1
    have va0 : w1.cell? ⟨w.heap.size, 0, none⟩ = some (.int .i64 b1) := xw1.cell (by first | (simp; done) | ((repeat rw [World.cell?_alloc_lt _ _ _ (by simp <;> omega)]); simp; done) | (go_simp; done))
    have va1 : w1.cell? ⟨w.heap.size, 1, none⟩ = some (.slice a1 s1.length cp1) := xw1.cell (by first | (simp; done) | ((repeat rw [World.cell?_alloc_lt _ _ _ (by simp <;> omega)]); simp; done) | (go_simp; done))
    have va2 : w1.cell? ⟨w.heap.size, 2, none⟩ = some (.slice a2 t1.length cp2) := xw1.cell (by first | (simp; done) | ((repeat rw [World.cell?_alloc_lt _ _ _ (by simp <;> omega)]); simp; done) | (go_simp; done))
    have z_va : w.heap.size < w1.heap.size := World.block_lt_of_cell? _ _ va0
    have s_w1 : w.heap.size ≤ w1.heap.size := Xw1.size
    clear xw1
    rw [ha.out]
    go_wp2_with fail
    go_ret
    exact ⟨by rw [hr.out] <;> rfl, Xw1.trans (by repeat (first | (with_reducible assumption) | (with_reducible refine Ext.setCell ?_ (by first | (simp; done) | (simp; omega) | omega) _) | (with_reducible apply Ext.alloc) | (with_reducible apply Ext.drew) | (with_reducible apply Ext.drewN) | (with_reducible exact Ext.refl _)))⟩
  · cases hb : inB 0 60 x
    · have hr : Hid (fitA b1 s1 t1 x = false) := Lib.hid (by unfold fitA; rw [ha, hb]; rfl)
      replace ha := Lib.hid ha
      replace hb := Lib.hid hb
      go_enter Try.func14, Try.ntmps14
      go_wp2_with fail
      refine (isView_c b1 _ _ s1 t1 _ l1 m1 (h1.ext (by repeat (first | (with_reducible assumption) | (with_reducible refine Ext.setCell ?_ (by first | (simp; done) | (simp; omega) | omega) _) | (with_reducible apply Ext.alloc) | (with_reducible apply Ext.drew) | (with_reducible apply Ext.drewN) | (with_reducible exact Ext.refl _)))) (k1.ext (by repeat (first | (with_reducible assumption) | (with_reducible refine Ext.setCell ?_ (by first | (simp; done) | (simp; omega) | omega) _) | (with_reducible apply Ext.alloc) | (with_reducible apply Ext.drew) | (with_reducible apply Ext.drewN) | (with_reducible exact Ext.refl _))))).mono ?_
      rintro e w1 ⟨rfl, xw1⟩
      have Lw1 : Ext w w1 := Ext.trans (by repeat (first | (with_reducible assumption) | (with_reducible refine Ext.setCell ?_ (by first | (simp; done) | (simp; omega) | omega) _) | (with_reducible apply Ext.alloc) | (with_reducible apply Ext.drew) | (with_reducible apply Ext.drewN) | (with_reducible exact Ext.refl _))) xw1
      have Xw1 : Ext w w1 := Lw1
      have va0 : w1.cell? ⟨w.heap.size, 0, none⟩ = some (.int .i64 b1) := xw1.cell (by first | (simp; done) | ((repeat rw [World.cell?_alloc_lt _ _ _ (by simp <;> omega)]); simp; done) | (go_simp; done))
      have va1 : w1.cell? ⟨w.heap.size, 1, none⟩ = some (.slice a1 s1.length cp1) := xw1.cell (by first | (simp; done) | ((repeat rw [World.cell?_alloc_lt _ _ _ (by simp <;> omega)]); simp; done) | (go_simp; done))
      have va2 : w1.cell? ⟨w.heap.size, 2, none⟩ = some (.slice a2 t1.length cp2) := xw1.cell (by first | (simp; done) | ((repeat rw [World.cell?_alloc_lt _ _ _ (by simp <;> omega)]); simp; done) | (go_simp; done))
      have z_va : w.heap.size < w1.heap.size := World.block_lt_of_cell? _ _ va0
      have s_w1 : w.heap.size ≤ w1.heap.size := Xw1.size
      clear xw1
      rw [ha.out]
      go_wp2_with fail
      refine (areCells_c x _).mono ?_
      rintro e w' ⟨rfl, rfl⟩
      rw [hb.out]
      go_wp2_with fail
      go_ret
      exact ⟨by rw [hr.out] <;> rfl, Xw1.trans (by repeat (first | (with_reducible assumption) | (with_reducible refine Ext.setCell ?_ (by first | (simp; done) | (simp; omega) | omega) _) | (with_reducible apply Ext.alloc) | (with_reducible apply Ext.drew) | (with_reducible apply Ext.drewN) | (with_reducible exact Ext.refl _)))⟩
    · have hr : Hid (fitA b1 s1 t1 x = fitB b1 s1 t1 x) := Lib.hid (by unfold fitA; rw [ha, hb]; rfl)
      have hx : 0 ≤ x ∧ x ≤ 60 := by unfold inB at hb; exact of_decide_eq_true hb
      replace ha := Lib.hid ha
      replace hb := Lib.hid hb
      go_enter Try.func14, Try.ntmps14
      go_wp2_with fail
      refine (isView_c b1 _ _ s1 t1 _ l1 m1 (h1.ext (by repeat (first | (with_reducible assumption) | (with_reducible refine Ext.setCell ?_ (by first | (simp; done) | (simp; omega) | omega) _) | (with_reducible apply Ext.alloc) | (with_reducible apply Ext.drew) | (with_reducible apply Ext.drewN) | (with_reducible exact Ext.refl _)))) (k1.ext (by repeat (first | (with_reducible assumption) | (with_reducible refine Ext.setCell ?_ (by first | (simp; done) | (simp; omega) | omega) _) | (with_reducible apply Ext.alloc) | (with_reducible apply Ext.drew) | (with_reducible apply Ext.drewN) | (with_reducible exact Ext.refl _))))).mono ?_
      rintro e w1 ⟨rfl, xw1⟩
      have Lw1 : Ext w w1 := Ext.trans (by repeat (first | (with_reducible assumption) | (with_reducible refine Ext.setCell ?_ (by first | (simp; done) | (simp; omega) | omega) _) | (with_reducible apply Ext.alloc) | (with_reducible apply Ext.drew) | (with_reducible apply Ext.drewN) | (with_reducible exact Ext.refl _))) xw1
      have Xw1 : Ext w w1 := Lw1
      have va0 : w1.cell? ⟨w.heap.size, 0, none⟩ = some (.int .i64 b1) := xw1.cell (by first | (simp; done) | ((repeat rw [World.cell?_alloc_lt _ _ _ (by simp <;> omega)]); simp; done) | (go_simp; done))
      have va1 : w1.cell? ⟨w.heap.size, 1, none⟩ = some (.slice a1 s1.length cp1) := xw1.cell (by first | (simp; done) | ((repeat rw [World.cell?_alloc_lt _ _ _ (by simp <;> omega)]); simp; done) | (go_simp; done))
      have va2 : w1.cell? ⟨w.heap.size, 2, none⟩ = some (.slice a2 t1.length cp2) := xw1.cell (by first | (simp; done) | ((repeat rw [World.cell?_alloc_lt _ _ _ (by simp <;> omega)]); simp; done) | (go_simp; done))
      have z_va : w.heap.size < w1.heap.size := World.block_lt_of_cell? _ _ va0
      have s_w1 : w.heap.size ≤ w1.heap.size := Xw1.size
      clear xw1
      rw [ha.out]
      go_wp2_with fail
      refine (areCells_c x _).mono ?_
      rintro e w' ⟨rfl, rfl⟩
      rw [hb.out]
      go_wp2_with fail
      refine (fitsIn_c b1 _ _ s1 t1 x _ l1 m1 (h1.ext (Xw1.trans (by repeat (first | (with_reducible assumption) | (with_reducible refine Ext.setCell ?_ (by first | (simp; done) | (simp; omega) | omega) _) | (with_reducible apply Ext.alloc) | (with_reducible apply Ext.drew) | (with_reducible apply Ext.drewN) | (with_reducible exact Ext.refl _))))) (k1.ext (Xw1.trans (by repeat (first | (with_reducible assumption) | (with_reducible refine Ext.setCell ?_ (by first | (simp; done) | (simp; omega) | omega) _) | (with_reducible apply Ext.alloc) | (with_reducible apply Ext.drew) | (with_reducible apply Ext.drewN) | (with_reducible exact Ext.refl _))))) ha.out).mono ?_
      rintro e w2 ⟨rfl, xw2⟩
      have Lw2 : Ext w1 w2 := Ext.trans (by repeat (first | (with_reducible assumption) | (with_reducible refine Ext.setCell ?_ (by first | (simp; done) | (simp; omega) | omega) _) | (with_reducible apply Ext.alloc) | (with_reducible apply Ext.drew) | (with_reducible apply Ext.drewN) | (with_reducible exact Ext.refl _))) xw2
      have Xw2 : Ext w w2 := Xw1.trans Lw2
      replace va0 := Lw2.cell va0
      replace va1 := Lw2.cell va1
      replace va2 := Lw2.cell va2
      have z_va : w.heap.size < w2.heap.size := World.block_lt_of_cell? _ _ va0
      have s_w2 : w.heap.size ≤ w2.heap.size := Xw2.size
      clear xw2
      go_wp2_with fail
      go_ret
      exact ⟨by rw [hr.out] <;> rfl, Xw2.trans (by repeat (first | (with_reducible assumption) | (with_reducible refine Ext.setCell ?_ (by first | (simp; done) | (simp; omega) | omega) _) | (with_reducible apply Ext.alloc) | (with_reducible apply Ext.drew) | (with_reducible apply Ext.drewN) | (with_reducible exact Ext.refl _)))⟩

set_option maxHeartbeats 1600000 in
theorem specFitsIn_c (b1 : Int) (u1 v1 : Value) (s1 t1 : List Int) (x : Int) (w : World) (l1 m1 : Nat) (h1 : Ints w l1 u1 s1) (k1 : Ints w m1 v1 t1) :
    Calls Try.prog 15 #[.agg #[.int .i64 b1, u1, v1], .int .i64 x] w (fun e w' => e = .returned (.bool (fitA b1 s1 t1 x)) ∧ Ext w w') := by
  obtain ⟨a1, cp1, rfl⟩ := h1.form
  obtain ⟨a2, cp2, rfl⟩ := k1.form
  cases ha : viewB b1 s1 t1
  · have hr : Hid (fitA b1 s1 t1 x = false) := Lib.hid (by unfold fitA; rw [ha]; rfl)
    replace ha := Lib.hid ha
    go_enter Try.func15, Try.ntmps15
    go_wp2_with fail
    refine (validView_c b1 _ _ s1 t1 _ l1 m1 (h1.ext (by repeat (first | (with_reducible assumption) | (with_reducible refine Ext.setCell ?_ (by first | (simp; done) | (simp; omega) | omega) _) | (with_reducible apply Ext.alloc) | (with_reducible apply Ext.drew) | (with_reducible apply Ext.drewN) | (with_reducible exact Ext.refl _)))) (k1.ext (by repeat (first | (with_reducible assumption) | (with_reducible refine Ext.setCell ?_ (by first | (simp; done) | (simp; omega) | omega) _) | (with_reducible apply Ext.alloc) | (with_reducible apply Ext.drew) | (with_reducible apply Ext.drewN) | (with_reducible exact Ext.refl _))))).mono ?_
    rintro e w1 ⟨rfl, xw1⟩
    have Lw1 : Ext w w1 := Ext.trans (by repeat (first | (with_reducible assumption) | (with_reducible refine Ext.setCell ?_ (by first | (simp; done) | (simp; omega) | omega) _) | (with_reducible apply Ext.alloc) | (with_reducible apply Ext.drew) | (with_reducible apply Ext.drewN) | (with_reducible exact Ext.refl _))) xw1
    have Xw1 : Ext w w1 := Lw1
    have va0 : w1.cell? ⟨w.heap.size, 0, none⟩ = some (.int .i64 b1) := xw1.cell (by first | (simp; done) | ((repeat rw [World.cell?_alloc_lt _ _ _ (by simp <;> omega)]); simp; done) | (go_simp; done))
    have va1 : w1.cell? ⟨w.heap.size, 1, none⟩ = some (.slice a1 s1.length cp1) := xw1.cell (by first | (simp; done) | ((repeat rw [World.cell?_alloc_lt _ _ _ (by simp <;> omega)]); simp; done) | (go_simp; done))
    have va2 : w1.cell? ⟨w.heap.size, 2, none⟩ = some (.slice a2 t1.length cp2) := xw1.cell (by first | (simp; done) | ((repeat rw [World.cell?_alloc_lt _ _ _ (by simp <;> omega)]); simp; done) | (go_simp; done))
    have z_va : w.heap.size < w1.heap.size := World.block_lt_of_cell? _ _ va0
    have s_w1 : w.heap.size ≤ w1.heap.size := Xw1.size
    clear xw1
    rw [ha.out]
    go_wp2_with fail
    go_ret
    exact ⟨by rw [hr.out] <;> rfl, Xw1.trans (by repeat (first | (with_reducible assumption) | (with_reducible refine Ext.setCell ?_ (by first | (simp; done) | (simp; omega) | omega) _) | (with_reducible apply Ext.alloc) | (with_reducible apply Ext.drew) | (with_reducible apply Ext.drewN) | (with_reducible exact Ext.refl _)))⟩
  · cases hb : inB 0 60 x
    · have hr : Hid (fitA b1 s1 t1 x = false) := Lib.hid (by unfold fitA; rw [ha, hb]; rfl)
      replace ha := Lib.hid ha
      replace hb := Lib.hid hb
      go_enter Try.func15, Try.ntmps15
      go_wp2_with fail
      refine (validView_c b1 _ _ s1 t1 _ l1 m1 (h1.ext (by repeat (first | (with_reducible assumption) | (with_reducible refine Ext.setCell ?_ (by first | (simp; done) | (simp; omega) | omega) _) | (with_reducible apply Ext.alloc) | (with_reducible apply Ext.drew) | (with_reducible apply Ext.drewN) | (with_reducible exact Ext.refl _)))) (k1.ext (by repeat (first | (with_reducible assumption) | (with_reducible refine Ext.setCell ?_ (by first | (simp; done) | (simp; omega) | omega) _) | (with_reducible apply Ext.alloc) | (with_reducible apply Ext.drew) | (with_reducible apply Ext.drewN) | (with_reducible exact Ext.refl _))))).mono ?_
      rintro e w1 ⟨rfl, xw1⟩
      have Lw1 : Ext w w1 := Ext.trans (by repeat (first | (with_reducible assumption) | (with_reducible refine Ext.setCell ?_ (by first | (simp; done) | (simp; omega) | omega) _) | (with_reducible apply Ext.alloc) | (with_reducible apply Ext.drew) | (with_reducible apply Ext.drewN) | (with_reducible exact Ext.refl _))) xw1
      have Xw1 : Ext w w1 := Lw1
      have va0 : w1.cell? ⟨w.heap.size, 0, none⟩ = some (.int .i64 b1) := xw1.cell (by first | (simp; done) | ((repeat rw [World.cell?_alloc_lt _ _ _ (by simp <;> omega)]); simp; done) | (go_simp; done))
      have va1 : w1.cell? ⟨w.heap.size, 1, none⟩ = some (.slice a1 s1.length cp1) := xw1.cell (by first | (simp; done) | ((repeat rw [World.cell?_alloc_lt _ _ _ (by simp <;> omega)]); simp; done) | (go_simp; done))
      have va2 : w1.cell? ⟨w.heap.size, 2, none⟩ = some (.slice a2 t1.length cp2) := xw1.cell (by first | (simp; done) | ((repeat rw [World.cell?_alloc_lt _ _ _ (by simp <;> omega)]); simp; done) | (go_simp; done))
      have z_va : w.heap.size < w1.heap.size := World.block_lt_of_cell? _ _ va0
      have s_w1 : w.heap.size ≤ w1.heap.size := Xw1.size
      clear xw1
      rw [ha.out]
      go_wp2_with fail
      refine (inRange_c x 0 60 _).mono ?_
      rintro e w' ⟨rfl, rfl⟩
      rw [hb.out]
      go_wp2_with fail
      go_ret
      exact ⟨by rw [hr.out] <;> rfl, Xw1.trans (by repeat (first | (with_reducible assumption) | (with_reducible refine Ext.setCell ?_ (by first | (simp; done) | (simp; omega) | omega) _) | (with_reducible apply Ext.alloc) | (with_reducible apply Ext.drew) | (with_reducible apply Ext.drewN) | (with_reducible exact Ext.refl _)))⟩
    · have hr : Hid (fitA b1 s1 t1 x = fitB b1 s1 t1 x) := Lib.hid (by unfold fitA; rw [ha, hb]; rfl)
      have hx : 0 ≤ x ∧ x ≤ 60 := by unfold inB at hb; exact of_decide_eq_true hb
      replace ha := Lib.hid ha
      replace hb := Lib.hid hb
      go_enter Try.func15, Try.ntmps15
      go_wp2_with fail
      refine (validView_c b1 _ _ s1 t1 _ l1 m1 (h1.ext (by repeat (first | (with_reducible assumption) | (with_reducible refine Ext.setCell ?_ (by first | (simp; done) | (simp; omega) | omega) _) | (with_reducible apply Ext.alloc) | (with_reducible apply Ext.drew) | (with_reducible apply Ext.drewN) | (with_reducible exact Ext.refl _)))) (k1.ext (by repeat (first | (with_reducible assumption) | (with_reducible refine Ext.setCell ?_ (by first | (simp; done) | (simp; omega) | omega) _) | (with_reducible apply Ext.alloc) | (with_reducible apply Ext.drew) | (with_reducible apply Ext.drewN) | (with_reducible exact Ext.refl _))))).mono ?_
      rintro e w1 ⟨rfl, xw1⟩
      have Lw1 : Ext w w1 := Ext.trans (by repeat (first | (with_reducible assumption) | (with_reducible refine Ext.setCell ?_ (by first | (simp; done) | (simp; omega) | omega) _) | (with_reducible apply Ext.alloc) | (with_reducible apply Ext.drew) | (with_reducible apply Ext.drewN) | (with_reducible exact Ext.refl _))) xw1
      have Xw1 : Ext w w1 := Lw1
      have va0 : w1.cell? ⟨w.heap.size, 0, none⟩ = some (.int .i64 b1) := xw1.cell (by first | (simp; done) | ((repeat rw [World.cell?_alloc_lt _ _ _ (by simp <;> omega)]); simp; done) | (go_simp; done))
      have va1 : w1.cell? ⟨w.heap.size, 1, none⟩ = some (.slice a1 s1.length cp1) := xw1.cell (by first | (simp; done) | ((repeat rw [World.cell?_alloc_lt _ _ _ (by simp <;> omega)]); simp; done) | (go_simp; done))
      have va2 : w1.cell? ⟨w.heap.size, 2, none⟩ = some (.slice a2 t1.length cp2) := xw1.cell (by first | (simp; done) | ((repeat rw [World.cell?_alloc_lt _ _ _ (by simp <;> omega)]); simp; done) | (go_simp; done))
      have z_va : w.heap.size < w1.heap.size := World.block_lt_of_cell? _ _ va0
      have s_w1 : w.heap.size ≤ w1.heap.size := Xw1.size
      clear xw1
      rw [ha.out]
      go_wp2_with fail
      refine (inRange_c x 0 60 _).mono ?_
      rintro e w' ⟨rfl, rfl⟩
      rw [hb.out]
      go_wp2_with fail
      refine (fits_c b1 _ _ s1 t1 x _ l1 m1 (h1.ext (Xw1.trans (by repeat (first | (with_reducible assumption) | (with_reducible refine Ext.setCell ?_ (by first | (simp; done) | (simp; omega) | omega) _) | (with_reducible apply Ext.alloc) | (with_reducible apply Ext.drew) | (with_reducible apply Ext.drewN) | (with_reducible exact Ext.refl _))))) (k1.ext (Xw1.trans (by repeat (first | (with_reducible assumption) | (with_reducible refine Ext.setCell ?_ (by first | (simp; done) | (simp; omega) | omega) _) | (with_reducible apply Ext.alloc) | (with_reducible apply Ext.drew) | (with_reducible apply Ext.drewN) | (with_reducible exact Ext.refl _))))) ha.out (by omega) (by omega)).mono ?_
      rintro e w2 ⟨rfl, xw2⟩
      have Lw2 : Ext w1 w2 := Ext.trans (by repeat (first | (with_reducible assumption) | (with_reducible refine Ext.setCell ?_ (by first | (simp; done) | (simp; omega) | omega) _) | (with_reducible apply Ext.alloc) | (with_reducible apply Ext.drew) | (with_reducible apply Ext.drewN) | (with_reducible exact Ext.refl _))) xw2
      have Xw2 : Ext w w2 := Xw1.trans Lw2
      replace va0 := Lw2.cell va0
      replace va1 := Lw2.cell va1
      replace va2 := Lw2.cell va2
      have z_va : w.heap.size < w2.heap.size := World.block_lt_of_cell? _ _ va0
      have s_w2 : w.heap.size ≤ w2.heap.size := Xw2.size
      clear xw2
      go_wp2_with fail
      go_ret
      exact ⟨by rw [hr.out] <;> rfl, Xw2.trans (by repeat (first | (with_reducible assumption) | (with_reducible refine Ext.setCell ?_ (by first | (simp; done) | (simp; omega) | omega) _) | (with_reducible apply Ext.alloc) | (with_reducible apply Ext.drew) | (with_reducible apply Ext.drewN) | (with_reducible exact Ext.refl _)))⟩

def bndT (b : Int) (s t : List Int) : Int × Int := if viewB b s t && !(countL s == 0) then (minL (offsL b s t), maxL (offsL b s t)) else (-1, -1)
set_option maxHeartbeats 1600000 in
theorem implBoundsOf_c (b1 : Int) (u1 v1 : Value) (s1 t1 : List Int) (w : World) (l1 m1 : Nat) (h1 : Ints w l1 u1 s1) (k1 : Ints w m1 v1 t1) :
    Calls Try.prog 17 #[.agg #[.int .i64 b1, u1, v1]] w (fun e w' => e = .returned (.tuple #[.int .i64 (bndT b1 s1 t1).1, .int .i64 (bndT b1 s1 t1).2]) ∧ Ext w w') := by
  obtain ⟨a1, cp1, rfl⟩ := h1.form
  obtain ⟨a2, cp2, rfl⟩ := k1.form
  cases ha : viewB b1 s1 t1
  · have hr : Hid (bndT b1 s1 t1 = (-1, -1)) := Lib.hid (by unfold bndT; rw [ha]; rfl)
    replace ha := Lib.hid ha
    go_enter Try.func17, Try.ntmps17
    go_wp2_with fail
    refine (isView_c b1 _ _ s1 t1 _ l1 m1 (h1.ext (by repeat (first | (with_reducible assumption) | (with_reducible refine Ext.setCell ?_ (by first | (simp; done) | (simp; omega) | omega) _) | (with_reducible apply Ext.alloc) | (with_reducible apply Ext.drew) | (with_reducible apply Ext.drewN) | (with_reducible exact Ext.refl _)))) (k1.ext (by repeat (first | (with_reducible assumption) | (with_reducible refine Ext.setCell ?_ (by first | (simp; done) | (simp; omega) | omega) _) | (with_reducible apply Ext.alloc) | (with_reducible apply Ext.drew) | (with_reducible apply Ext.drewN) | (with_reducible exact Ext.refl _))))).mono ?_
    rintro e w1 ⟨rfl, xw1⟩
    have Lw1 : Ext w w1 := Ext.trans (by repeat (first | (with_reducible assumption) | (with_reducible refine Ext.setCell ?_ (by first | (simp; done) | (simp; omega) | omega) _) | (with_reducible apply Ext.alloc) | (with_reducible apply Ext.drew) | (with_reducible apply Ext.drewN) | (with_reducible exact Ext.refl _))) xw1
    have Xw1 : Ext w w1 := Lw1
    have va0 : w1.cell? ⟨w.heap.size, 0, none⟩ = some (.int .i64 b1) := xw1.cell (by first | (simp; done) | ((repeat rw [World.cell?_alloc_lt _ _ _ (by simp <;> omega)]); simp; done) | (go_simp; done))
    have va1 : w1.cell? ⟨w.heap.size, 1, none⟩ = some (.slice a1 s1.length cp1) := xw1.cell (by first | (simp; done) | ((repeat rw [World.cell?_alloc_lt _ _ _ (by simp <;> omega)]); simp; done) | (go_simp; done))
    have va2 : w1.cell? ⟨w.heap.size, 2, none⟩ = some (.slice a2 t1.length cp2) := xw1.cell (by first | (simp; done) | ((repeat rw [World.cell?_alloc_lt _ _ _ (by simp <;> omega)]); simp; done) | (go_simp; done))
    have z_va : w.heap.size < w1.heap.size := World.block_lt_of_cell? _ _ va0
    have s_w1 : w.heap.size ≤ w1.heap.size := Xw1.size
    clear xw1
    rw [ha.out]
    go_wp2_with fail
    go_ret2
    rw [hr.out]
    exact ⟨rfl, Xw1.trans (by repeat (first | (with_reducible assumption) | (with_reducible refine Ext.setCell ?_ (by first | (simp; done) | (simp; omega) | omega) _) | (with_reducible apply Ext.alloc) | (with_reducible apply Ext.drew) | (with_reducible apply Ext.drewN) | (with_reducible exact Ext.refl _)))⟩
  · cases hz : (countL s1 == 0)
    · have hr : Hid (bndT b1 s1 t1 = (minL (offsL b1 s1 t1), maxL (offsL b1 s1 t1))) := Lib.hid (by unfold bndT; rw [ha, hz]; rfl)
      obtain ⟨j1, j2, -⟩ := viewB_in ha
      have hin := Lib.hid (shapeB_in j1)
      have hj2 := Lib.hid j2
      have hne : Hid (offsL b1 s1 t1 ≠ []) := Lib.hid (min_lo ha (by simpa using hz)).2.2
      clear j1 j2
      replace ha := Lib.hid ha
      go_enter Try.func17, Try.ntmps17
      go_wp2_with fail
      refine (isView_c b1 _ _ s1 t1 _ l1 m1 (h1.ext (by repeat (first | (with_reducible assumption) | (with_reducible refine Ext.setCell ?_ (by first | (simp; done) | (simp; omega) | omega) _) | (with_reducible apply Ext.alloc) | (with_reducible apply Ext.drew) | (with_reducible apply Ext.drewN) | (with_reducible exact Ext.refl _)))) (k1.ext (by repeat (first | (with_reducible assumption) | (with_reducible refine Ext.setCell ?_ (by first | (simp; done) | (simp; omega) | omega) _) | (with_reducible apply Ext.alloc) | (with_reducible apply Ext.drew) | (with_reducible apply Ext.drewN) | (with_reducible exact Ext.refl _))))).mono ?_
      rintro e w1 ⟨rfl, xw1⟩
      have Lw1 : Ext w w1 := Ext.trans (by repeat (first | (with_reducible assumption) | (with_reducible refine Ext.setCell ?_ (by first | (simp; done) | (simp; omega) | omega) _) | (with_reducible apply Ext.alloc) | (with_reducible apply Ext.drew) | (with_reducible apply Ext.drewN) | (with_reducible exact Ext.refl _))) xw1
      have Xw1 : Ext w w1 := Lw1
      have va0 : w1.cell? ⟨w.heap.size, 0, none⟩ = some (.int .i64 b1) := xw1.cell (by first | (simp; done) | ((repeat rw [World.cell?_alloc_lt _ _ _ (by simp <;> omega)]); simp; done) | (go_simp; done))
      have va1 : w1.cell? ⟨w.heap.size, 1, none⟩ = some (.slice a1 s1.length cp1) := xw1.cell (by first | (simp; done) | ((repeat rw [World.cell?_alloc_lt _ _ _ (by simp <;> omega)]); simp; done) | (go_simp; done))
      have va2 : w1.cell? ⟨w.heap.size, 2, none⟩ = some (.slice a2 t1.length cp2) := xw1.cell (by first | (simp; done) | ((repeat rw [World.cell?_alloc_lt _ _ _ (by simp <;> omega)]); simp; done) | (go_simp; done))
      have z_va : w.heap.size < w1.heap.size := World.block_lt_of_cell? _ _ va0
      have s_w1 : w.heap.size ≤ w1.heap.size := Xw1.size
      clear xw1
      rw [ha.out]
      go_wp2_with fail
      refine (countOf_c s1 _ _ l1 (h1.ext (Xw1.trans (by repeat (first | (with_reducible assumption) | (with_reducible refine Ext.setCell ?_ (by first | (simp; done) | (simp; omega) | omega) _) | (with_reducible apply Ext.alloc) | (with_reducible apply Ext.drew) | (with_reducible apply Ext.drewN) | (with_reducible exact Ext.refl _)))))).mono ?_
      rintro e w' ⟨rfl, rfl⟩
      go_wp2_with fail
      refine (offsetsOf_c b1 _ _ s1 t1 _ l1 m1 (h1.ext (Xw1.trans (by repeat (first | (with_reducible assumption) | (with_reducible refine Ext.setCell ?_ (by first | (simp; done) | (simp; omega) | omega) _) | (with_reducible apply Ext.alloc) | (with_reducible apply Ext.drew) | (with_reducible apply Ext.drewN) | (with_reducible exact Ext.refl _))))) (k1.ext (Xw1.trans (by repeat (first | (with_reducible assumption) | (with_reducible refine Ext.setCell ?_ (by first | (simp; done) | (simp; omega) | omega) _) | (with_reducible apply Ext.alloc) | (with_reducible apply Ext.drew) | (with_reducible apply Ext.drewN) | (with_reducible exact Ext.refl _))))) (by have := hj2.out; omega) hin.out.2.2.2.2 (by have := hin.out; omega)).mono ?_
      rintro e w2 ⟨r, rfl, i, -, xw2⟩
      have Lw2 : Ext w1 w2 := Ext.trans (by repeat (first | (with_reducible assumption) | (with_reducible refine Ext.setCell ?_ (by first | (simp; done) | (simp; omega) | omega) _) | (with_reducible apply Ext.alloc) | (with_reducible apply Ext.drew) | (with_reducible apply Ext.drewN) | (with_reducible exact Ext.refl _))) xw2
      have Xw2 : Ext w w2 := Xw1.trans Lw2
      replace va0 := Lw2.cell va0
      replace va1 := Lw2.cell va1
      replace va2 := Lw2.cell va2
      have z_va : w.heap.size < w2.heap.size := World.block_lt_of_cell? _ _ va0
      have s_w2 : w.heap.size ≤ w2.heap.size := Xw2.size
      clear xw2
      go_wp2_with fail
      refine (min_c _ _ _ _ i hne.out).mono ?_
      rintro e w' ⟨rfl, rfl⟩
      go_wp2_with fail
      refine (max_c _ _ _ _ i hne.out).mono ?_
      rintro e w' ⟨rfl, rfl⟩
      go_wp2_with fail
      go_ret2
      rw [hr.out]
      exact ⟨rfl, Xw2.trans (by repeat (first | (with_reducible assumption) | (with_reducible refine Ext.setCell ?_ (by first | (simp; done) | (simp; omega) | omega) _) | (with_reducible apply Ext.alloc) | (with_reducible apply Ext.drew) | (with_reducible apply Ext.drewN) | (with_reducible exact Ext.refl _)))⟩
    · have hr : Hid (bndT b1 s1 t1 = (-1, -1)) := Lib.hid (by unfold bndT; rw [ha, hz]; rfl)
      replace ha := Lib.hid ha
      go_enter Try.func17, Try.ntmps17
      go_wp2_with fail
      refine (isView_c b1 _ _ s1 t1 _ l1 m1 (h1.ext (by repeat (first | (with_reducible assumption) | (with_reducible refine Ext.setCell ?_ (by first | (simp; done) | (simp; omega) | omega) _) | (with_reducible apply Ext.alloc) | (with_reducible apply Ext.drew) | (with_reducible apply Ext.drewN) | (with_reducible exact Ext.refl _)))) (k1.ext (by repeat (first | (with_reducible assumption) | (with_reducible refine Ext.setCell ?_ (by first | (simp; done) | (simp; omega) | omega) _) | (with_reducible apply Ext.alloc) | (with_reducible apply Ext.drew) | (with_reducible apply Ext.drewN) | (with_reducible exact Ext.refl _))))).mono ?_
      rintro e w1 ⟨rfl, xw1⟩
      have Lw1 : Ext w w1 := Ext.trans (by repeat (first | (with_reducible assumption) | (with_reducible refine Ext.setCell ?_ (by first | (simp; done) | (simp; omega) | omega) _) | (with_reducible apply Ext.alloc) | (with_reducible apply Ext.drew) | (with_reducible apply Ext.drewN) | (with_reducible exact Ext.refl _))) xw1
      have Xw1 : Ext w w1 := Lw1
      have va0 : w1.cell? ⟨w.heap.size, 0, none⟩ = some (.int .i64 b1) := xw1.cell (by first | (simp; done) | ((repeat rw [World.cell?_alloc_lt _ _ _ (by simp <;> omega)]); simp; done) | (go_simp; done))
      have va1 : w1.cell? ⟨w.heap.size, 1, none⟩ = some (.slice a1 s1.length cp1) := xw1.cell (by first | (simp; done) | ((repeat rw [World.cell?_alloc_lt _ _ _ (by simp <;> omega)]); simp; done) | (go_simp; done))
      have va2 : w1.cell? ⟨w.heap.size, 2, none⟩ = some (.slice a2 t1.length cp2) := xw1.cell (by first | (simp; done) | ((repeat rw [World.cell?_alloc_lt _ _ _ (by simp <;> omega)]); simp; done) | (go_simp; done))
      have z_va : w.heap.size < w1.heap.size := World.block_lt_of_cell? _ _ va0
      have s_w1 : w.heap.size ≤ w1.heap.size := Xw1.size
      clear xw1
      rw [ha.out]
      go_wp2_with fail
      refine (countOf_c s1 _ _ l1 (h1.ext (Xw1.trans (by repeat (first | (with_reducible assumption) | (with_reducible refine Ext.setCell ?_ (by first | (simp; done) | (simp; omega) | omega) _) | (with_reducible apply Ext.alloc) | (with_reducible apply Ext.drew) | (with_reducible apply Ext.drewN) | (with_reducible exact Ext.refl _)))))).mono ?_
      rintro e w' ⟨rfl, rfl⟩
      go_wp2_with fail
      go_ret2
      rw [hr.out]
      exact ⟨rfl, Xw1.trans (by repeat (first | (with_reducible assumption) | (with_reducible refine Ext.setCell ?_ (by first | (simp; done) | (simp; omega) | omega) _) | (with_reducible apply Ext.alloc) | (with_reducible apply Ext.drew) | (with_reducible apply Ext.drewN) | (with_reducible exact Ext.refl _)))⟩


end Go.Proofs.Ytnjaidgifccgjaa

/- Helpers of the laws: equal lists, equal views, a number in a list. -/
namespace Go.Proofs.Ytnjaidgifccgjaa
open Go.RowKit
set_option linter.unusedVariables false
set_option maxRecDepth 100000



set_option maxHeartbeats 1600000 in
theorem leqInts_c (xs : List Int) (a b : Value) (w : World) (la lb : Nat) (ha : Ints w la a xs) (hb : Ints w lb b xs) :
    Calls Try.prog 20 #[a, b] w fun e w' => e = .returned (.bool true) ∧ Ext w w' := by
  obtain ⟨a1, cap1, rfl, _, _, ⟨hlen, _⟩, hc1⟩ := ha
  obtain ⟨a2, cap2, rfl, _, _, ⟨hlen2, _⟩, hc2⟩ := hb
  go_enter Try.func20, Try.ntmps20
  go_wp2_with fail
  go_loopw [5] (fun i wr => ∃ k m : Nat, k ≤ xs.length ∧ i = .int .i64 k ∧ wr = w.drewN m) (fun i _ => xs.length - (intOf i).toNat)
  case atStart => exact ⟨0, 0, Nat.zero_le _, rfl, rfl⟩
  case round =>
    obtain ⟨k, m, hk, rfl, rfl⟩ := hrel
    by_cases hlt : k < xs.length
    · obtain ⟨b1, off1, rfl, _, hcell1, _⟩ := hc1 k hlt
      obtain ⟨b2, off2, rfl, _, hcell2, _⟩ := hc2 k hlt
      have hk4 : (k : Int) < xs.length := by omega
      clear hc1 hc2
      generalize xs.getD k 0 = x at *
      go_wp2_with fail
      go_quiet (fail)
      go_wp2_with fail
      go_roundw
      case rel => exact ⟨k+1, _, by omega, by go_num, rfl⟩
      case measure => simp [intOf]; omega
    · obtain rfl : k = xs.length := by omega
      go_wp2_with fail
      go_ret
      exact ⟨rfl, (by repeat (first | exact Ext.refl _ | assumption | apply Ext.drewN | apply Ext.drew | apply Ext.alloc))⟩

set_option maxHeartbeats 1600000 in
theorem isIn_c (xs : List Int) (n : Int) (a : Value) (w : World) (la : Nat) (ha : Ints w la a xs) :
    Calls Try.prog 29 #[a, .int .i64 n] w fun e w' => e = .returned (.bool (decide (n ∈ xs))) ∧ Ext w w' := by
  obtain ⟨a1, cap1, rfl, _, _, ⟨hlen, _⟩, hc1⟩ := ha
  go_enter Try.func29, Try.ntmps29
  go_wp2_with fail
  go_loopw [5] (fun i wr => ∃ k m : Nat, k ≤ xs.length ∧ i = .int .i64 k ∧ wr = w.drewN m ∧ Hid (n ∉ xs.take k)) (fun i _ => xs.length - (intOf i).toNat)
  case atStart => exact ⟨0, 0, Nat.zero_le _, rfl, rfl, Lib.hid (by simp)⟩
  case round =>
    obtain ⟨k, m, hk, rfl, rfl, ht⟩ := hrel
    by_cases hlt : k < xs.length
    · obtain ⟨b1, off1, rfl, _, hcell1, _⟩ := hc1 k hlt
      have hk4 : (k : Int) < xs.length := by omega
      have hg := Lib.hid (show xs.getD k 0 ∈ xs by simp [hlt])
      have hs := Lib.hid (show xs.take (k+1) = xs.take k ++ [xs.getD k 0] by rw [List.take_succ_eq_append_getElem hlt]; simp [hlt])
      clear hc1
      generalize xs.getD k 0 = x at *
      by_cases hx : x = n
      · have hq : (x == n) = true := by simpa using hx
        have hn := Lib.hid (show decide (n ∈ xs) = true by rw [← hx]; simpa using hg.out)
        replace hx := Lib.hid hx
        go_wp2_with fail
        go_ret
        exact ⟨by rw [hn.out] <;> rfl, (by repeat (first | exact Ext.refl _ | assumption | apply Ext.drewN | apply Ext.drew | apply Ext.alloc))⟩
      · have hq : (x == n) = false := by simpa using hx
        have hn := Lib.hid (show n ∉ xs.take (k+1) by rw [hs.out]; simp only [List.mem_append, List.mem_singleton, not_or]; exact ⟨ht.out, fun h => hx h.symm⟩)
        replace hx := Lib.hid hx
        go_wp2_with fail
        go_roundw
        case rel => exact ⟨k+1, _, by omega, by go_num, rfl, hn⟩
        case measure => simp [intOf]; omega
    · obtain rfl : k = xs.length := by omega
      have hn := Lib.hid (show decide (n ∈ xs) = false by have := ht.out; rw [List.take_length] at this; simpa using this)
      go_wp2_with fail
      go_ret
      exact ⟨by rw [hn.out] <;> rfl, (by repeat (first | exact Ext.refl _ | assumption | apply Ext.drewN | apply Ext.drew | apply Ext.alloc))⟩

set_option maxHeartbeats 1600000 in
theorem leqView_c (b1 : Int) (u1 v1 u2 v2 : Value) (s1 t1 : List Int) (w : World) (l1 m1 l2 m2 : Nat) (h1 : Ints w l1 u1 s1) (k1 : Ints w m1 v1 t1) (h2 : Ints w l2 u2 s1) (k2 : Ints w m2 v2 t1) :
    Calls Try.prog 46 #[.agg #[.int .i64 b1, u1, v1], .agg #[.int .i64 b1, u2, v2]] w fun e w' => e = .returned (.bool true) ∧ Ext w w' := by
  obtain ⟨a1, cp1, rfl⟩ := h1.form
  obtain ⟨a2, cp2, rfl⟩ := k1.form
  obtain ⟨a3, cp3, rfl⟩ := h2.form
  obtain ⟨a4, cp4, rfl⟩ := k2.form
  go_enter Try.func46, Try.ntmps46
  go_wp2_with fail
  refine (leqInts_c s1 _ _ _ l1 l2 (h1.ext (by repeat (first | (with_reducible assumption) | (with_reducible refine Ext.setCell ?_ (by first | (simp; done) | (simp; omega) | omega) _) | (with_reducible apply Ext.alloc) | (with_reducible apply Ext.drew) | (with_reducible apply Ext.drewN) | (with_reducible exact Ext.refl _)))) (h2.ext (by repeat (first | (with_reducible assumption) | (with_reducible refine Ext.setCell ?_ (by first | (simp; done) | (simp; omega) | omega) _) | (with_reducible apply Ext.alloc) | (with_reducible apply Ext.drew) | (with_reducible apply Ext.drewN) | (with_reducible exact Ext.refl _))))).mono ?_
  rintro e w1 ⟨rfl, xw1⟩
  have Lw1 : Ext w w1 := Ext.trans (by repeat (first | (with_reducible assumption) | (with_reducible refine Ext.setCell ?_ (by first | (simp; done) | (simp; omega) | omega) _) | (with_reducible apply Ext.alloc) | (with_reducible apply Ext.drew) | (with_reducible apply Ext.drewN) | (with_reducible exact Ext.refl _))) xw1
  have Xw1 : Ext w w1 := Lw1
  have va0 : w1.cell? ⟨w.heap.size, 0, none⟩ = some (.int .i64 b1) := xw1.cell (by first | (simp; done) | ((repeat rw [World.cell?_alloc_lt _ _ _ (by simp <;> omega)]); simp; done) | (go_simp; done))
  have va1 : w1.cell? ⟨w.heap.size, 1, none⟩ = some (.slice a1 s1.length cp1) := xw1.cell (by first | (simp; done) | ((repeat rw [World.cell?_alloc_lt _ _ _ (by simp <;> omega)]); simp; done) | (go_simp; done))
  have va2 : w1.cell? ⟨w.heap.size, 2, none⟩ = some (.slice a2 t1.length cp2) := xw1.cell (by first | (simp; done) | ((repeat rw [World.cell?_alloc_lt _ _ _ (by simp <;> omega)]); simp; done) | (go_simp; done))
  have vb0 : w1.cell? ⟨w.heap.size + 1, 0, none⟩ = some (.int .i64 b1) := xw1.cell (by first | (simp; done) | ((repeat rw [World.cell?_alloc_lt _ _ _ (by simp <;> omega)]); simp; done) | (go_simp; done))
  have vb1 : w1.cell? ⟨w.heap.size + 1, 1, none⟩ = some (.slice a3 s1.length cp3) := xw1.cell (by first | (simp; done) | ((repeat rw [World.cell?_alloc_lt _ _ _ (by simp <;> omega)]); simp; done) | (go_simp; done))
  have vb2 : w1.cell? ⟨w.heap.size + 1, 2, none⟩ = some (.slice a4 t1.length cp4) := xw1.cell (by first | (simp; done) | ((repeat rw [World.cell?_alloc_lt _ _ _ (by simp <;> omega)]); simp; done) | (go_simp; done))
  have z_va : w.heap.size < w1.heap.size := World.block_lt_of_cell? _ _ va0
  have z_vb : w.heap.size + 1 < w1.heap.size := World.block_lt_of_cell? _ _ vb0
  have s_w1 : w.heap.size ≤ w1.heap.size := Xw1.size
  clear xw1
  go_wp2_with fail
  refine (leqInts_c t1 _ _ _ m1 m2 (k1.ext (Xw1.trans (by repeat (first | (with_reducible assumption) | (with_reducible refine Ext.setCell ?_ (by first | (simp; done) | (simp; omega) | omega) _) | (with_reducible apply Ext.alloc) | (with_reducible apply Ext.drew) | (with_reducible apply Ext.drewN) | (with_reducible exact Ext.refl _))))) (k2.ext (Xw1.trans (by repeat (first | (with_reducible assumption) | (with_reducible refine Ext.setCell ?_ (by first | (simp; done) | (simp; omega) | omega) _) | (with_reducible apply Ext.alloc) | (with_reducible apply Ext.drew) | (with_reducible apply Ext.drewN) | (with_reducible exact Ext.refl _)))))).mono ?_
  rintro e w2 ⟨rfl, xw2⟩
  have Lw2 : Ext w1 w2 := Ext.trans (by repeat (first | (with_reducible assumption) | (with_reducible refine Ext.setCell ?_ (by first | (simp; done) | (simp; omega) | omega) _) | (with_reducible apply Ext.alloc) | (with_reducible apply Ext.drew) | (with_reducible apply Ext.drewN) | (with_reducible exact Ext.refl _))) xw2
  have Xw2 : Ext w w2 := Xw1.trans Lw2
  replace va0 := Lw2.cell va0
  replace va1 := Lw2.cell va1
  replace va2 := Lw2.cell va2
  replace vb0 := Lw2.cell vb0
  replace vb1 := Lw2.cell vb1
  replace vb2 := Lw2.cell vb2
  have z_va : w.heap.size < w2.heap.size := World.block_lt_of_cell? _ _ va0
  have z_vb : w.heap.size + 1 < w2.heap.size := World.block_lt_of_cell? _ _ vb0
  have s_w2 : w.heap.size ≤ w2.heap.size := Xw2.size
  clear xw2
  go_wp2_with fail
  go_ret
  exact ⟨rfl, Xw2.trans (by repeat (first | (with_reducible assumption) | (with_reducible refine Ext.setCell ?_ (by first | (simp; done) | (simp; omega) | omega) _) | (with_reducible apply Ext.alloc) | (with_reducible apply Ext.drew) | (with_reducible apply Ext.drewN) | (with_reducible exact Ext.refl _)))⟩

end Go.Proofs.Ytnjaidgifccgjaa

/- Walks: helpers of the laws. -/
namespace Go.Proofs.Ytnjaidgifccgjaa
open Go.RowKit
set_option linter.unusedVariables false
set_option maxRecDepth 100000

set_option maxHeartbeats 1600000 in
theorem takes_c (xs ix : List Int) (a b : Value) (w : World) (la lb : Nat) (ha : Ints w la a xs) (hb : Ints w lb b ix) (hin : ∀ i ∈ ix, 0 ≤ i ∧ i < xs.length) :
    Calls Try.prog 37 #[a, b] w (PInts w (takL xs ix)) := by
  obtain ⟨a1, c1, rfl⟩ := ha.form
  obtain ⟨a2, c2, rfl⟩ := hb.form
  have hlen := hb.len
  replace hin := Lib.hid hin
  go_enter Try.func37, Try.ntmps37
  go_wp2_with fail
  go_loopw [5, 6] (fun v i wr => ∃ k : Nat, k ≤ ix.length ∧ i = .int .i64 k ∧ OwnI wr w.heap.size v (takL xs (ix.take k)) ∧ Ext w wr) (fun _ i _ => ix.length - (intOf i).toNat)
  case atStart => exact ⟨0, Nat.zero_le _, rfl, OwnI.lit0 w w.heap.size (Nat.le_refl _), (by repeat (first | exact Ext.refl _ | assumption | apply Ext.drewN | apply Ext.drew | apply Ext.alloc))⟩
  case round =>
    obtain ⟨k, hk, rfl, ho, hx⟩ := hrel
    have hz := hx.size
    have hl := Lib.hid (takL_len xs (ix.take k))
    by_cases hlt : k < ix.length
    · obtain ⟨_, _, hv, _, _, _, hc⟩ := hb.ext hx
      cases hv
      obtain ⟨b1, off1, rfl, _, hcell, _⟩ := hc k hlt
      have g : ix.getD k 0 = ix[k] := by simp [hlt]
      have hs := takL_take xs ix k hlt
      obtain ⟨i1, i2⟩ := hin.out _ (List.getElem_mem hlt)
      obtain ⟨j, hj⟩ : ∃ j : Nat, ix[k] = j := ⟨_, (Int.toNat_of_nonneg i1).symm⟩
      rw [g, hj] at hcell
      rw [hj] at hs i2
      have hjl : j < xs.length := by omega
      obtain ⟨_, _, hv, _, _, _, hc'⟩ := ha.ext hx
      cases hv
      obtain ⟨b2, off2, rfl, _, hcell2, _⟩ := hc' j hjl
      have g2 : xs.getD j 0 = xs[j] := by simp [hjl]
      rw [g2] at hcell2
      have hs' := Lib.hid (show takL xs (ix.take (k+1)) = takL xs (ix.take k) ++ [xs[j]] by rw [hs]; simp [hjl])
      clear hc hc' g g2 hj hs i1
      go_wp2_with (at_builtin; refine wpList_app rfl (.tmp 14) (.tmp 22) rfl rfl rfl (ho.ext ((Ext.refl _).alloc _)) (Ints.one _ 0 _ (Nat.zero_le _)) (by have := hl.out; simp only [List.length_cons, List.length_nil, List.length_take] at this ⊢; omega) (by simp; omega) ?_)
      intro v' w3 ho3 _ hb3 _
      have hx3 := (hx.alloc (.cells #[.int .i64 xs[j]] 3)).below hb3 (by omega)
      clear hb3 ho
      replace ho3 := Lib.hid ho3
      go_wp2_with fail
      go_roundw
      case rel => exact ⟨k+1, by omega, by go_num, by rw [hs'.out]; exact ho3.out, hx3⟩
      case measure => simp [intOf]; omega
    · obtain rfl : k = ix.length := by omega
      replace ho := Lib.hid ho
      go_wp2_with fail
      go_ret
      exact PInts.mk (by have := ho.out; rw [List.take_length] at this; exact this) (Nat.le_refl _) (by rw [takL_len]; omega) hx


set_option maxHeartbeats 1600000 in
theorem lupTo_c (n : Nat) (w : World) (hn : n ≤ 1000) :
    Calls Try.prog 53 #[.int .i64 (n : Int)] w (PInts w (upL n)) := by
  go_enter Try.func53, Try.ntmps53
  go_wp2_with fail
  go_loopw [3, 4] (fun v i wr => ∃ k : Nat, k ≤ n ∧ i = .int .i64 k ∧ OwnI wr w.heap.size v (upL k) ∧ Ext w wr) (fun _ i _ => n - (intOf i).toNat)
  case atStart => exact ⟨0, Nat.zero_le _, rfl, OwnI.lit0 w w.heap.size (Nat.le_refl _), (by repeat (first | exact Ext.refl _ | assumption | apply Ext.drewN | apply Ext.drew | apply Ext.alloc))⟩
  case round =>
    obtain ⟨k, hk, rfl, ho, hx⟩ := hrel
    have hz := hx.size
    have hl : (upL k).length = k := by simp [upL]
    by_cases hlt : k < n
    · have hI : (k : Int) < n := by omega
      have hs := Lib.hid (upL_succ k)
      go_wp2_with (at_builtin; refine wpList_app rfl (.tmp 11) (.tmp 13) rfl rfl rfl (ho.ext ((Ext.refl _).alloc _)) (Ints.one _ 0 _ (Nat.zero_le _)) (by simp only [List.length_cons, List.length_nil]; omega) (by simp; omega) ?_)
      intro v' w3 ho3 _ hb3 _
      have hx3 := (hx.alloc (.cells #[.int .i64 (k : Int)] 3)).below hb3 (by omega)
      clear hb3 ho
      replace ho3 := Lib.hid ho3
      go_wp2_with fail
      go_roundw
      case rel => exact ⟨k+1, by omega, by go_num, by rw [hs.out]; exact ho3.out, hx3⟩
      case measure => simp [intOf]; omega
    · obtain rfl : k = n := by omega
      replace ho := Lib.hid ho
      go_wp2_with fail
      go_ret
      exact PInts.mk ho.out (Nat.le_refl _) (by omega) hx


theorem back_take (xs : List Int) (k : Nat) (h : k < xs.length) : (xs.drop k).reverse = (xs.drop (k+1)).reverse ++ [xs.getD k 0] := by
  rw [List.drop_eq_getElem_cons h, List.reverse_cons]; simp [h]
set_option maxHeartbeats 1600000 in
theorem back_c (xs : List Int) (v : Value) (w : World) (lo : Nat) (hv : Ints w lo v xs) :
    Calls Try.prog 52 #[v] w (PInts w xs.reverse) := by
  have hl4 := hv.len
  have hrl : xs.reverse.length = xs.length := by simp
  replace hrl := Lib.hid hrl
  obtain ⟨a1, c1, rfl⟩ := hv.form
  go_enter Try.func52, Try.ntmps52
  go_wp2_with fail
  go_loopw [3, 4] (fun v i wr => ∃ k : Nat, k ≤ xs.length ∧ i = .int .i64 ((k : Int) - 1) ∧ OwnI wr w.heap.size v (xs.drop k).reverse ∧ Ext w wr) (fun _ i _ => (intOf i + 1).toNat)
  case atStart => exact ⟨xs.length, Nat.le_refl _, rfl, by rw [List.drop_length]; exact OwnI.lit0 w w.heap.size (Nat.le_refl _), (by repeat (first | exact Ext.refl _ | assumption | apply Ext.drewN | apply Ext.drew | apply Ext.alloc))⟩
  case round =>
    obtain ⟨k, hk, rfl, ho, hx⟩ := hrel
    have hz := hx.size
    have hl := Lib.hid (show (xs.drop k).reverse.length = xs.length - k by simp)
    by_cases hlt : 0 < k
    · obtain ⟨j, rfl⟩ : ∃ j, k = j + 1 := ⟨k - 1, by omega⟩
      have hI : (0 : Int) ≤ ((j + 1 : Nat) : Int) - 1 := by omega
      have hs := Lib.hid (back_take xs j (by omega))
      obtain ⟨b2, off2, rfl, hcell2⟩ := (hv.ext hx).at j (by omega)
      have hj : (((j + 1 : Nat) : Int) - 1) = (j : Int) := by omega
      rw [hj]
      generalize xs.getD j 0 = x at *
      have hI2 : (j : Int) < xs.length := by omega
      clear hI hj
      go_wp2_with (at_builtin; refine wpList_app rfl (.tmp 13) (.tmp 18) rfl rfl rfl (ho.ext ((Ext.refl _).alloc _)) (Ints.one _ 0 _ (Nat.zero_le _)) (by have := hl.out; simp only [List.length_cons, List.length_nil]; omega) (by simp; omega) ?_)
      intro v' w3 ho3 _ hb3 _
      have hx3 := (hx.alloc (.cells #[.int .i64 x] 3)).below hb3 (by omega)
      clear hb3 ho hcell2
      replace ho3 := Lib.hid ho3
      go_wp2_with fail
      go_roundw
      case rel => exact ⟨j, by omega, rfl, by rw [hs.out]; exact ho3.out, hx3⟩
      case measure => simp [intOf]
    · obtain rfl : k = 0 := by omega
      replace ho := Lib.hid ho
      go_wp2_with fail
      go_ret
      exact PInts.mk (by have := ho.out; rw [List.drop_zero] at this; exact this) (Nat.le_refl _) (by rw [hrl.out]; omega) hx

/-- the sum of numbers -/
def sumL (xs : List Int) : Int := xs.foldl (· + ·) 0
theorem sumL_take (xs : List Int) (k : Nat) (h : k < xs.length) : sumL (xs.take (k+1)) = sumL (xs.take k) + xs.getD k 0 := by
  unfold sumL; rw [List.take_succ_eq_append_getElem h, List.foldl_append]; simp [h]
theorem sumL_bd (xs : List Int) (h : ∀ x ∈ xs, -1000000 ≤ x ∧ x ≤ 1000000) : -(1000000 * (xs.length : Int)) ≤ sumL xs ∧ sumL xs ≤ 1000000 * (xs.length : Int) := by
  have key : ∀ (ys : List Int) (a : Int), (∀ x ∈ ys, -1000000 ≤ x ∧ x ≤ 1000000) → a - 1000000 * (ys.length : Int) ≤ ys.foldl (· + ·) a ∧ ys.foldl (· + ·) a ≤ a + 1000000 * (ys.length : Int) := by
    intro ys
    induction ys with
    | nil => intro a _; simp
    | cons y r ih =>
      intro a hy
      have h1 := hy y (by simp)
      have h2 := ih (a + y) (fun x hx => hy x (by simp [hx]))
      simp only [List.foldl_cons, List.length_cons]
      omega
  have := key xs 0 h
  unfold sumL; omega
set_option maxHeartbeats 1600000 in
theorem total_c (xs : List Int) (v : Value) (w : World) (lo : Nat) (hv : Ints w lo v xs) (hb : ∀ x ∈ xs, -1000000 ≤ x ∧ x ≤ 1000000) :
    Calls Try.prog 54 #[v] w fun e w' => e = .returned (.int .i64 (sumL xs)) ∧ w = w' := by
  have hl4 := hv.len
  obtain ⟨a1, c1, rfl⟩ := hv.form
  replace hb := Lib.hid hb
  go_enter Try.func54, Try.ntmps54
  go_wp2_with fail
  go_loop [3, 4] (fun n i => ∃ k : Nat, k ≤ xs.length ∧ i = .int .i64 k ∧ n = .int .i64 (sumL (xs.take k))) (fun _ i => xs.length - (intOf i).toNat)
  case atStart => exact ⟨0, Nat.zero_le _, rfl, rfl⟩
  case round =>
    obtain ⟨k, hk, rfl, rfl⟩ := hrel
    by_cases hlt : k < xs.length
    · have hI : (k : Int) < xs.length := by omega
      obtain ⟨b2, off2, rfl, hcell2⟩ := hv.at k hlt
      have hs := sumL_take xs k hlt
      have h1 := sumL_bd (xs.take k) (fun x hx => hb.out x (List.mem_of_mem_take hx))
      have h2 := hb.out (xs.getD k 0) (by simp [hlt])
      have h3 : (xs.take k).length = k := by simp; omega
      rw [h3] at h1
      generalize xs.getD k 0 = x at *
      generalize hy : sumL (xs.take k) = y at *
      replace hs := Lib.hid hs
      clear h3
      replace hy := Lib.hid hy
      go_wp2_with fail
      go_round
      case rel => exact ⟨k+1, by omega, by go_num, by rw [hs.out]⟩
      case measure => simp [intOf]; omega
    · obtain rfl : k = xs.length := by omega
      go_wp2_with fail
      go_ret
      exact ⟨rfl, rfl⟩

theorem implValidMemory_c (xs : List Int) (v : Value) (w : World) (lo : Nat) (hv : Ints w lo v xs) :
    Calls Try.prog 36 #[v] w fun e w' => e = .returned (.bool (memB xs)) ∧ w = w' := by
  obtain ⟨a1, c1, rfl⟩ := hv.form
  go_enter Try.func36, Try.ntmps36
  go_wp2_with fail
  refine (isMemory_c xs _ _ _ hv).mono ?_
  rintro e w' ⟨rfl, rfl⟩
  go_wp2_with fail
  go_ret
  exact ⟨rfl, rfl⟩

theorem leqInts_e (xs ys : List Int) (a b : Value) (w : World) (la lb : Nat) (ha : Ints w la a xs) (hb : Ints w lb b ys) (he : xs = ys) :
    Calls Try.prog 20 #[a, b] w fun e w' => e = .returned (.bool true) ∧ Ext w w' := by
  subst he; exact leqInts_c xs a b w la lb ha hb
theorem leqView_e (b1 b2 : Int) (u1 v1 u2 v2 : Value) (s1 t1 s2 t2 : List Int) (w : World) (l1 m1 l2 m2 : Nat) (h1 : Ints w l1 u1 s1) (k1 : Ints w m1 v1 t1) (h2 : Ints w l2 u2 s2) (k2 : Ints w m2 v2 t2) (he : b1 = b2 ∧ s1 = s2 ∧ t1 = t2) :
    Calls Try.prog 46 #[.agg #[.int .i64 b1, u1, v1], .agg #[.int .i64 b2, u2, v2]] w fun e w' => e = .returned (.bool true) ∧ Ext w w' := by
  obtain ⟨rfl, rfl, rfl⟩ := he; exact leqView_c b1 u1 v1 u2 v2 s1 t1 w l1 m1 l2 m2 h1 k1 h2 k2

end Go.Proofs.Ytnjaidgifccgjaa

/- Helpers of walks: capacities, two rows that grow. -/
namespace Go.Proofs.Ytnjaidgifccgjaa
open Go.RowKit
set_option linter.unusedVariables false

theorem Ints.capLe {w : World} {lo : Nat} {a : Option Addr} {n c : Nat} {xs : List Int} (h : Ints w lo (.slice a n c) xs) : n ≤ c ∧ c ≤ maxLen := by
  obtain ⟨a', c', e, h1, h2, _⟩ := h
  cases e
  exact ⟨h1, h2⟩
theorem PViewB.two {w w' : World} {B : Nat} {b : Int} {s t : List Int} {v1 v2 : Value} (T : Two B w' v1 v2 s t) (hB : w.heap.size ≤ B) (hs : s.length ≤ 1000) (ht : t.length ≤ 1000) (hx : Ext w w') :
    PViewB w b s t true (.returned (.tuple #[.agg #[.int .i64 b, v1, v2], .bool true])) w' :=
  ⟨_, _, rfl, (T.o1.ints (by omega)).lower hB, (T.o2.ints (by omega)).lower hB, (T.o1.lower hB).z, (T.o2.lower hB).z,
    (fun n1 n2 h => by obtain ⟨g, _, h1, _⟩ := (T.o1).row n1; rw [h1] at h; exact T.sep g (by rw [h1]; rfl) (h ▸ rfl)), hx⟩
theorem pi_eq {w w0 : World} {xs ys : List Int} {f : Nat} {args : Array Value} (he : xs = ys) (h : Calls Try.prog f args w (PInts w0 xs)) : Calls Try.prog f args w (PInts w0 ys) := he ▸ h
theorem pv_eq {w w0 : World} {x : VBool} {B : Int} {S T : List Int} {o : Bool} {f : Nat} {args : Array Value} (he : x = (B, S, T, o)) (h : Calls Try.prog f args w (PVB w0 x)) : Calls Try.prog f args w (PViewB w0 B S T o) := by subst he; exact h
end Go.Proofs.Ytnjaidgifccgjaa

/- Walks: drawn values for a view of a memory. -/
namespace Go.Proofs.Ytnjaidgifccgjaa
open Go.RowKit
set_option linter.unusedVariables false
set_option maxRecDepth 100000

def PVals (rb k : Nat) (w : World) (e : Ending) (w' : World) : Prop := ∃ (p : Option Addr) (n c : Nat) (xs : List Int), e = .returned (.slice p n c) ∧ Ints w' w.heap.size (.slice p n c) xs ∧ xs.length ≤ 60 ∧ Rd w' rb k ∧ Chg rb (rb + 1) w w'
theorem cnt60 {s : List Int} (h : shapeB s = true) : 0 ≤ countL s ∧ countL s ≤ 60 := by have := shapeB_in h; omega
set_option maxHeartbeats 3200000 in
theorem valuesFor_c (b : Int) (v1 u1 : Value) (s : List Int) (rb k : Nat) (w : World) (l1 : Nat) (hr : Rd w rb k) (hk : k ≤ 900000) (h1 : Ints w l1 u1 s) (hl : rb < l1) :
    Calls Try.prog 87 #[.pointer (some ⟨rb, 0, none⟩), .agg #[.int .i64 b, u1, v1]] w (PVals rb (k + 70) w) := by
  have hlt := hr.lt
  obtain ⟨p1, c1, rfl⟩ := h1.form
  go_enter Try.func87, Try.ntmps87
  go_wp2_with fail
  refine (count_c s _ _ _ (h1.ext (by repeat (first | (with_reducible assumption) | (with_reducible refine Ext.setCell ?_ (by first | (simp; done) | (simp; omega) | omega) _) | (with_reducible apply Ext.alloc) | (with_reducible apply Ext.drew) | (with_reducible apply Ext.drewN) | (with_reducible exact Ext.refl _))))).mono ?_
  rintro e w' ⟨rfl, rfl⟩
  have hc0 : ((w.alloc (.cells #[.int .i64 b, .slice p1 s.length c1, v1] 25)).alloc (.cells #[] 3)).cell? ⟨w.heap.size, 1, none⟩ = some (.slice p1 s.length c1) := by first | (simp; done) | ((repeat rw [World.cell?_alloc_lt _ _ _ (by simp <;> omega)]); simp; done) | (go_simp; done)
  have hx0 : Ext w ((w.alloc (.cells #[.int .i64 b, .slice p1 s.length c1, v1] 25)).alloc (.cells #[] 3)) := (by repeat (first | (with_reducible assumption) | (with_reducible refine Ext.setCell ?_ (by first | (simp; done) | (simp; omega) | omega) _) | (with_reducible apply Ext.alloc) | (with_reducible apply Ext.drew) | (with_reducible apply Ext.drewN) | (with_reducible exact Ext.refl _)))
  have ho0 : OwnI ((w.alloc (.cells #[.int .i64 b, .slice p1 s.length c1, v1] 25)).alloc (.cells #[] 3)) (w.heap.size + 1) (.slice (some ⟨w.heap.size + 1, 0, none⟩) 0 0) [] := by
    have := OwnI.lit0 (w.alloc (.cells #[.int .i64 b, .slice p1 s.length c1, v1] 25)) (w.heap.size + 1) (by simp)
    simpa using this
  have hr0 : Rd ((w.alloc (.cells #[.int .i64 b, .slice p1 s.length c1, v1] 25)).alloc (.cells #[] 3)) rb k := hr.ext hx0
  have hst1 : ∀ (L : List Int), L = [] → Hid ((shapeB s = true → 0 ≤ countL s ∧ (L.length : Int) + countL s ≤ 60) ∧ (shapeB s = false → L = [])) := fun L hL => Lib.hid ⟨fun h => by have := cnt60 h; rw [hL]; simp; omega, fun _ => hL⟩
  have hst := hst1 [] rfl
  clear hst1
  obtain ⟨N, hN⟩ : ∃ N, countL s = N := ⟨_, rfl⟩
  rw [hN] at hst ⊢
  clear hN
  go_wp2_with fail
  go_loopw [5, 6] (fun v i wr => ∃ (q : Nat) (n : Int) (xs : List Int), i = .int .i64 n ∧ Hid ((shapeB s = true → 0 ≤ n ∧ (xs.length : Int) + n ≤ 60) ∧ (shapeB s = false → xs = [])) ∧ xs.length ≤ 60 ∧ q ≤ k + xs.length ∧ OwnI wr (w.heap.size + 1) v xs ∧ Rd wr rb q ∧ Chg rb (rb + 1) w wr ∧ wr.cell? ⟨w.heap.size, 1, none⟩ = some (.slice p1 s.length c1)) (fun _ i _ => (intOf i).toNat)
  case atStart => exact ⟨k, N, [], rfl, Lib.hid ⟨hst.out.1, fun _ => rfl⟩, by simp, by simp, ho0, hr0, Chg.of_ext hx0, hc0⟩
  case round =>
    clear hr0 ho0 hx0 hc0 hst hr
    obtain ⟨q, n, xs, rfl, hst, hx60, hq, ho, hr, hX, hc⟩ := hrel
    have hz : w.heap.size ≤ wr.heap.size := hX.size
    have hzc : w.heap.size < wr.heap.size := World.block_lt_of_cell? _ _ hc
    have h1r := h1.chg hX hl
    by_cases hn : 0 < n
    · go_wp2_with fail
      refine (validShape_c s _ _ _ (h1r.ext (by repeat (first | (with_reducible assumption) | (with_reducible refine Ext.setCell ?_ (by first | (simp; done) | (simp; omega) | omega) _) | (with_reducible apply Ext.alloc) | (with_reducible apply Ext.drew) | (with_reducible apply Ext.drewN) | (with_reducible exact Ext.refl _))))).mono ?_
      rintro e w' ⟨rfl, rfl⟩
      cases hs : shapeB s
      · have hxe := hst.out.2 hs
        replace hs := Lib.hid hs
        replace h1r := Lib.hid h1r
        subst hxe
        obtain ⟨a5, c5, rfl⟩ := (ho.ints (by omega)).form
        replace ho := Lib.hid ho
        go_wp2_with fail
        go_ret
        exact ⟨_, _, _, [], rfl, (ho.out.ints (by simp)).lower (by omega), by simp, hr.mono (by omega), hX⟩
      · have hst' := hst.out.1 hs
        replace hs := Lib.hid hs
        replace h1r := Lib.hid h1r
        have hI2 : -1 ≤ n - 1 ∧ n - 1 ≤ 60 := by omega
        go_wp2_with fail
        refine (pick1_c _ rb _ _ hr (by omega) (by omega)).mono ?_
        rintro e w2 ⟨x, rfl, hx, hr2, hC2⟩
        have ho2 := ho.chg hC2 (by omega)
        have hX2 : Chg rb (rb + 1) w w2 := hX.trans hC2
        have hc2 := hC2.cell (.inr (by omega)) hc
        have hz2 : w.heap.size ≤ w2.heap.size := hX2.size
        have hzc2 : w.heap.size < w2.heap.size := World.block_lt_of_cell? _ _ hc2
        clear hC2 hX ho hr hx hc
        replace ho2 := Lib.hid ho2
        replace hX2 := Lib.hid hX2
        replace hr2 := Lib.hid hr2
        go_wp2_with (at_builtin; refine wpList_app rfl (.tmp 20) (.tmp 23) rfl rfl rfl (ho2.out.ext ((Ext.refl _).alloc _)) (Ints.one _ 0 _ (Nat.zero_le _)) (by simp only [List.length_cons, List.length_nil]; omega) (by simp; omega) ?_; intro v' w3 ho3 _ hb3 _; replace ho3 := Lib.hid ho3)
        go_roundw
        case rel => exact ⟨q + 1, n - 1, xs ++ [x], by first | rfl | go_num, Lib.hid ⟨fun h => by simp; omega, fun h => by rw [hs.out] at h; cases h⟩, by simp; omega, by simp; omega, ho3.out, (hr2.out.alloc _).below hb3 (by omega), Rch.below (hX2.out.ext (by repeat (first | (with_reducible assumption) | (with_reducible refine Ext.setCell ?_ (by first | (simp; done) | (simp; omega) | omega) _) | (with_reducible apply Ext.alloc) | (with_reducible apply Ext.drew) | (with_reducible apply Ext.drewN) | (with_reducible exact Ext.refl _)))) (hb3.mono (by omega)), below_cell hb3 (by omega) (by rw [World.cell?_alloc_lt _ _ _ (by simp <;> omega)]; exact hc2)⟩
        case measure => simp [intOf]; omega
    · replace h1r := Lib.hid h1r
      by_cases hxe : xs = []
      · subst hxe
        obtain ⟨a5, c5, rfl⟩ := (ho.ints (by omega)).form
        replace ho := Lib.hid ho
        go_wp2_with fail
        go_ret
        exact ⟨_, _, _, [], rfl, (ho.out.ints (by simp)).lower (by omega), by simp, hr.mono (by omega), hX⟩
      · obtain ⟨g, n2, c, rfl, hn2, G, G'⟩ := ho.row2 hxe
        have hlx : 0 < xs.length := List.length_pos_iff.2 hxe
        have hnI : Hid ((0 : Int) < (n2 : Int)) := Lib.hid (by have := hn2.out; omega)
        have hn1 : n2 = xs.length := hn2.out
        subst hn1
        have hcap := (ho.ints (by omega)).capLe
        replace hxe := Lib.hid hxe
        have hnI' := hnI.out
        go_wp2_with fail
        refine (pick1_c _ rb _ _ hr (by omega) (by omega)).mono ?_
        rintro e w2 ⟨x, rfl, hx, hr2, hC2⟩
        have ho2 := ho.chg hC2 (by omega)
        have hX2 : Chg rb (rb + 1) w w2 := hX.trans hC2
        clear hC2 hX ho hr hx hc
        by_cases hx0 : x = 0
        · subst hx0
          have hi2 := (ho2.ints (by omega)).lower (show w.heap.size ≤ _ by omega)
          by_cases hc1 : c = 1
          · subst hc1
            have hd := hi2.drop0 1 (by omega) rfl
            replace hd := Lib.hid hd
            replace hi2 := Lib.hid hi2
            replace ho2 := Lib.hid ho2
            have h1I : (1 : Int) ≤ xs.length := by omega
            have hl1 : xs.length = 1 := by omega
            rw [hl1] at hd ⊢
            have hfin : Hid ((xs.drop 1).length ≤ 60) := Lib.hid (by simp; omega)
            replace hl1 := Lib.hid hl1
            go_wp2_with fail
            go_ret
            exact ⟨_, _, _, xs.drop 1, rfl, hd.out, hfin.out, hr2.mono (by omega), hX2⟩
          · have hd := hi2.drop1 1 (by omega) hc1
            replace hd := Lib.hid hd
            replace hi2 := Lib.hid hi2
            replace ho2 := Lib.hid ho2
            have h1I : (1 : Int) ≤ xs.length := by omega
            have hcI : (1 : Int) ≤ c := by omega
            have hcne : (c == 1) = false := by simpa using hc1
            go_wp2_with fail
            go_ret
            exact ⟨_, _, _, xs.drop 1, rfl, hd.out, by simp; omega, hr2.mono (by omega), hX2⟩
        · have hxe0 : (x == 0) = false := by simpa using hx0
          by_cases hx1 : x = 1
          · subst hx1
            go_wp2_with fail
            refine (oneLit_c _ _ _ rb _ _ (by exact hr2) (by omega) (by rfl) (by rfl) (by constructor <;> simp) (by first | rfl | simp)).mono ?_
            rintro e w3 ⟨y, rfl, hy, hr3, hC3⟩
            have ho3 := (ho2.ext (by repeat (first | exact Ext.refl _ | assumption | apply Ext.drewN | apply Ext.drew | apply Ext.alloc))).chg hC3 (by omega)
            have hX3 : Chg rb (rb + 1) w w3 := (hX2.ext (by repeat (first | exact Ext.refl _ | assumption | apply Ext.drewN | apply Ext.drew | apply Ext.alloc))).trans hC3
            have hz3 := hX3.size
            clear hC3 hX2 ho2 hr2 hy
            obtain ⟨A1, A2⟩ := ho3.cell 0 hlx
            replace ho3 := Lib.hid ho3
            go_wp2_with fail
            go_ret
            exact ⟨_, _, _, xs.set 0 y, rfl, ((ho3.out.set 0 y hlx).ints (by simp; omega)).lower (by omega), by simp; omega, (Rd.set2 (by simp; omega) hr3).mono (by omega), Rch.set hX3 (by simp; omega) _⟩
          · have hxe1 : (x == 1) = false := by simpa using hx1
            replace hx0 := Lib.hid hx0
            replace hx1 := Lib.hid hx1
            replace ho2 := Lib.hid ho2
            go_wp2_with fail
            go_ret
            exact ⟨_, _, _, xs, rfl, (ho2.out.ints (by omega)).lower (by omega), by omega, hr2.mono (by omega), hX2⟩

/-- a memory, a view and values are drawn -/
def PMVV (lo : Nat) (e : Ending) (w' : World) : Prop := ∃ (mem : List Int) (p0 : Option Addr) (n0 r0 : Nat) (b : Int) (s t : List Int) (p1 p2 : Option Addr) (n1 r1 n2 r2 : Nat) (vs : List Int) (p3 : Option Addr) (n3 r3 : Nat), e = .returned (.tuple #[.slice p0 n0 r0, .agg #[.int .i64 b, .slice p1 n1 r1, .slice p2 n2 r2], .slice p3 n3 r3]) ∧ mem.length ≤ 60 ∧
  Ints w' lo (.slice p0 n0 r0) mem ∧ Ints w' lo (.slice p1 n1 r1) s ∧ Ints w' lo (.slice p2 n2 r2) t ∧ s.length ≤ 4 ∧ t.length ≤ 5 ∧ Ints w' lo (.slice p3 n3 r3) vs ∧ vs.length ≤ 60
set_option maxHeartbeats 3200000 in
theorem drawStoreView_c (a : Option Addr) (n cap : Nat) (w : World) (hb : BysIn w a n cap) :
    Calls Try.prog 38 #[.slice a n cap] w (fun e w' => PMVV w.heap.size e w' ∧ Ext w w') := by
  go_enter Try.func38, Try.ntmps38
  go_wp2_with fail
  refine (newReader_c a n cap _ (hb.ext (by repeat (first | (with_reducible assumption) | (with_reducible refine Ext.setCell ?_ (by first | (simp; done) | (simp; omega) | omega) _) | (with_reducible apply Ext.alloc) | (with_reducible apply Ext.drew) | (with_reducible apply Ext.drewN) | (with_reducible exact Ext.refl _))))).mono ?_
  rintro e w1 ⟨rfl, hr, xw1⟩
  have Lw1 : Ext w w1 := Ext.trans (by repeat (first | (with_reducible assumption) | (with_reducible refine Ext.setCell ?_ (by first | (simp; done) | (simp; omega) | omega) _) | (with_reducible apply Ext.alloc) | (with_reducible apply Ext.drew) | (with_reducible apply Ext.drewN) | (with_reducible exact Ext.refl _))) xw1
  have Xw1 : Ext w w1 := Lw1
  have q0 : w1.cell? ⟨w.heap.size, 0, none⟩ = some (.int .i64 0) := xw1.cell (by first | (simp; done) | ((repeat rw [World.cell?_alloc_lt _ _ _ (by simp <;> omega)]); simp; done) | (go_simp; done))
  have q1 : w1.cell? ⟨w.heap.size, 1, none⟩ = some (.slice none 0 0) := xw1.cell (by first | (simp; done) | ((repeat rw [World.cell?_alloc_lt _ _ _ (by simp <;> omega)]); simp; done) | (go_simp; done))
  have q2 : w1.cell? ⟨w.heap.size, 2, none⟩ = some (.slice none 0 0) := xw1.cell (by first | (simp; done) | ((repeat rw [World.cell?_alloc_lt _ _ _ (by simp <;> omega)]); simp; done) | (go_simp; done))
  have f_q0 : w1.frozen? ⟨w.heap.size, 0, none⟩ = false := xw1.frz (by simp <;> omega) (by first | (simp; done) | (go_simp; done))
  have f_q1 : w1.frozen? ⟨w.heap.size, 1, none⟩ = false := xw1.frz (by simp <;> omega) (by first | (simp; done) | (go_simp; done))
  have f_q2 : w1.frozen? ⟨w.heap.size, 2, none⟩ = false := xw1.frz (by simp <;> omega) (by first | (simp; done) | (go_simp; done))
  have z_q : w.heap.size < w1.heap.size := World.block_lt_of_cell? _ _ q0
  have s_w1 : w.heap.size ≤ w1.heap.size := Xw1.size
  clear xw1
  simp only [World.size_alloc] at hr
  have z1 := hr.lt
  clear hb
  go_wp2_with fail
  refine (memView_c _ 0 _ hr (by omega)).mono ?_
  rintro e w2 ⟨⟨mem, p0, n0, r0, b, s, t, p1, p2, n1, r1, n2, r2, rfl, hml, i0, i1, i2, l1, l2⟩, Rw2, Cw2⟩
  have zc_w2 := Cw2.size
  have Xw2 : Ext w w2 := Rch.toExt' Cw2 (by omega) (Xw1)
  replace q0 := Cw2.cell (by omega) q0
  replace f_q0 := Cw2.frzO (by omega) (by omega) f_q0
  replace q1 := Cw2.cell (by omega) q1
  replace f_q1 := Cw2.frzO (by omega) (by omega) f_q1
  replace q2 := Cw2.cell (by omega) q2
  replace f_q2 := Cw2.frzO (by omega) (by omega) f_q2
  have z_q : w.heap.size < w2.heap.size := World.block_lt_of_cell? _ _ q0
  have s_w2 : w.heap.size ≤ w2.heap.size := Xw2.size
  clear hr Cw2
  go_wp2_with fail
  have Lw3 : Ext w2 (w2.alloc (.cells #[.int .i64 b, .slice p1 n1 r1, .slice p2 n2 r2] 25)) := (by repeat (first | (with_reducible assumption) | (with_reducible refine Ext.setCell ?_ (by first | (simp; done) | (simp; omega) | omega) _) | (with_reducible apply Ext.alloc) | (with_reducible apply Ext.drew) | (with_reducible apply Ext.drewN) | (with_reducible exact Ext.refl _)))
  have Xw3 : Ext w (w2.alloc (.cells #[.int .i64 b, .slice p1 n1 r1, .slice p2 n2 r2] 25)) := Xw2.trans Lw3
  replace Rw2 := Rw2.ext Lw3
  replace q0 := Lw3.cell q0
  replace q1 := Lw3.cell q1
  replace q2 := Lw3.cell q2
  replace f_q0 := Lw3.frz z_q f_q0
  replace f_q1 := Lw3.frz z_q f_q1
  replace f_q2 := Lw3.frz z_q f_q2
  have v0 : (w2.alloc (.cells #[.int .i64 b, .slice p1 n1 r1, .slice p2 n2 r2] 25)).cell? ⟨w2.heap.size, 0, none⟩ = some (.int .i64 b) := (by first | (simp; done) | ((repeat rw [World.cell?_alloc_lt _ _ _ (by simp <;> omega)]); simp; done) | (go_simp; done))
  have v1 : (w2.alloc (.cells #[.int .i64 b, .slice p1 n1 r1, .slice p2 n2 r2] 25)).cell? ⟨w2.heap.size, 1, none⟩ = some (.slice p1 n1 r1) := (by first | (simp; done) | ((repeat rw [World.cell?_alloc_lt _ _ _ (by simp <;> omega)]); simp; done) | (go_simp; done))
  have v2 : (w2.alloc (.cells #[.int .i64 b, .slice p1 n1 r1, .slice p2 n2 r2] 25)).cell? ⟨w2.heap.size, 2, none⟩ = some (.slice p2 n2 r2) := (by first | (simp; done) | ((repeat rw [World.cell?_alloc_lt _ _ _ (by simp <;> omega)]); simp; done) | (go_simp; done))
  have z_q : w.heap.size < (w2.alloc (.cells #[.int .i64 b, .slice p1 n1 r1, .slice p2 n2 r2] 25)).heap.size := World.block_lt_of_cell? _ _ q0
  have z_v : w2.heap.size < (w2.alloc (.cells #[.int .i64 b, .slice p1 n1 r1, .slice p2 n2 r2] 25)).heap.size := World.block_lt_of_cell? _ _ v0
  replace i0 := i0.ext Lw3
  replace i1 := i1.ext Lw3
  replace i2 := i2.ext Lw3
  have s_w3 : w.heap.size ≤ (w2.alloc (.cells #[.int .i64 b, .slice p1 n1 r1, .slice p2 n2 r2] 25)).heap.size := Xw3.size
  generalize w2.alloc (.cells #[.int .i64 b, .slice p1 n1 r1, .slice p2 n2 r2] 25) = w3 at *
  go_wp2_with fail
  refine wp_region_held_drew (S := fun w' => w'.cell? ⟨w2.heap.size, 0, none⟩ = some (.int .i64 b) ∧ w'.cell? ⟨w2.heap.size, 1, none⟩ = some (.slice p1 n1 r1) ∧ w'.cell? ⟨w2.heap.size, 2, none⟩ = some (.slice p2 n2 r2)) (by kernel_rfl) ⟨v0, v1, v2⟩ (fun hHeld => ?_)
  refine wpAnyH_take (i := 0) (v := ?_) rfl (by kernel_rfl) (by kernel_rfl) (by kernel_rfl) (fun _ _ _ h => h) (Or.inl ⟨by rfl, ?_⟩) (by assumption) ?_
  rotate_left
  · (intro w hSw; (try dsimp only at hSw); go_simp; try with_reducible rfl)
  try simp only [Act.put, List.setIfInBounds_toArray, List.set_cons_zero, List.set_cons_succ, List.getElem_toArray, List.getElem_cons_succ, List.getElem_cons_zero]
  refine wpAnyH_take (i := 1) (v := ?_) rfl (by kernel_rfl) (by kernel_rfl) (by kernel_rfl) (fun _ _ _ h => h) (Or.inl ⟨by rfl, ?_⟩) (by assumption) ?_
  rotate_left
  · (intro w hSw; (try dsimp only at hSw); go_simp; try with_reducible rfl)
  try simp only [Act.put, List.setIfInBounds_toArray, List.set_cons_zero, List.set_cons_succ, List.getElem_toArray, List.getElem_cons_succ, List.getElem_cons_zero]
  refine wpAnyH_take (i := 2) (v := ?_) rfl (by kernel_rfl) (by kernel_rfl) (by kernel_rfl) (fun _ _ _ h => h) (Or.inl ⟨by rfl, ?_⟩) (by assumption) ?_
  rotate_left
  · (intro w hSw; (try dsimp only at hSw); go_simp; try with_reducible rfl)
  try simp only [Act.put, List.setIfInBounds_toArray, List.set_cons_zero, List.set_cons_succ, List.getElem_toArray, List.getElem_cons_succ, List.getElem_cons_zero]
  refine wpAnyH_take (i := 3) (v := ?_) rfl (by kernel_rfl) (by kernel_rfl) (by kernel_rfl) (fun _ _ _ h => h) (Or.inl ⟨by rfl, ?_⟩) (by assumption) ?_
  rotate_left
  · (intro w hSw; (try dsimp only at hSw); go_simp; try with_reducible rfl)
  try simp only [Act.put, List.setIfInBounds_toArray, List.set_cons_zero, List.set_cons_succ, List.getElem_toArray, List.getElem_cons_succ, List.getElem_cons_zero]
  refine wpAnyH_ready (rs := [4]) (by kernel_rfl) (by simp) ?_
  refine AllReadyH.cons rfl (fun K hK => ?_) AllReadyH.nil
  try simp only [Act.put, List.setIfInBounds_toArray, List.set_cons_zero, List.set_cons_succ, List.getElem_toArray, List.getElem_cons_succ, List.getElem_cons_zero]
  go_simp
  refine (valuesFor_c b _ _ s _ _ _ _ (Rw2.ext (by repeat (first | (with_reducible assumption) | (with_reducible refine Ext.setCell ?_ (by first | (simp; done) | (simp; omega) | omega) _) | (with_reducible apply Ext.alloc) | (with_reducible apply Ext.drew) | (with_reducible apply Ext.drewN) | (with_reducible exact Ext.refl _)))) (by omega) (i1.ext (by repeat (first | (with_reducible assumption) | (with_reducible refine Ext.setCell ?_ (by first | (simp; done) | (simp; omega) | omega) _) | (with_reducible apply Ext.alloc) | (with_reducible apply Ext.drew) | (with_reducible apply Ext.drewN) | (with_reducible exact Ext.refl _)))) (by omega)).mono ?_
  rintro e w4 ⟨p3, n3, r3, vs, rfl, i3, hvl, Rw4, Cw4⟩
  have Ew4 : Ext w3 (w3.drew) := (by repeat (first | (with_reducible assumption) | (with_reducible refine Ext.setCell ?_ (by first | (simp; done) | (simp; omega) | omega) _) | (with_reducible apply Ext.alloc) | (with_reducible apply Ext.drew) | (with_reducible apply Ext.drewN) | (with_reducible exact Ext.refl _)))
  have e_w4 := Ew4.size
  have zc_w4 := Cw4.size
  simp only [World.size_drew] at zc_w4
  have Xw4 : Ext w w4 := Rch.toExt' Cw4 (by omega) (Xw3.trans Ew4)
  replace q0 := Cw4.cell (by omega) (Ew4.cell q0)
  replace f_q0 := Cw4.frzO (by omega) (by omega) (Ew4.frz z_q f_q0)
  replace q1 := Cw4.cell (by omega) (Ew4.cell q1)
  replace f_q1 := Cw4.frzO (by omega) (by omega) (Ew4.frz z_q f_q1)
  replace q2 := Cw4.cell (by omega) (Ew4.cell q2)
  replace f_q2 := Cw4.frzO (by omega) (by omega) (Ew4.frz z_q f_q2)
  replace v0 := Cw4.cell (by omega) (Ew4.cell v0)
  replace v1 := Cw4.cell (by omega) (Ew4.cell v1)
  replace v2 := Cw4.cell (by omega) (Ew4.cell v2)
  have z_q : w.heap.size < w4.heap.size := World.block_lt_of_cell? _ _ q0
  have z_v : w2.heap.size < w4.heap.size := World.block_lt_of_cell? _ _ v0
  replace i0 := (i0.ext Ew4).chg Cw4 (by omega)
  replace i1 := (i1.ext Ew4).chg Cw4 (by omega)
  replace i2 := (i2.ext Ew4).chg Cw4 (by omega)
  have s_w4 : w.heap.size ≤ w4.heap.size := Xw4.size
  clear Rw2 Cw4 Ew4
  simp only [World.size_drew] at i3
  refine hK.out _ _ ⟨v0, v1, v2⟩ (fun hHeld => ?_)
  clear hK K
  try simp only [Act.put, List.setIfInBounds_toArray, List.set_cons_zero, List.set_cons_succ, List.getElem_toArray, List.getElem_cons_succ, List.getElem_cons_zero]
  refine wpAnyH_take (i := 5) (v := ?_) rfl (by kernel_rfl) (by kernel_rfl) (by kernel_rfl) (fun _ _ _ h => h) (Or.inl ⟨by rfl, ?_⟩) (by assumption) ?_
  rotate_left
  · (intro w hSw; (try dsimp only at hSw); go_simp; try with_reducible rfl)
  try simp only [Act.put, List.setIfInBounds_toArray, List.set_cons_zero, List.set_cons_succ, List.getElem_toArray, List.getElem_cons_succ, List.getElem_cons_zero]
  refine wpAnyH_ready (rs := [6]) (by kernel_rfl) (by simp) ?_
  refine AllReadyH.cons rfl (fun K hK => ?_) AllReadyH.nil
  try simp only [Act.put, List.setIfInBounds_toArray, List.set_cons_zero, List.set_cons_succ, List.getElem_toArray, List.getElem_cons_succ, List.getElem_cons_zero]
  go_simp
  have Kw5 : Chg (w.heap.size) (w.heap.size + 1) w4 (((w4.setCell ⟨w.heap.size, 0, none⟩ (.int .i64 b)).setCell ⟨w.heap.size, 1, none⟩ (.slice p1 n1 r1)).setCell ⟨w.heap.size, 2, none⟩ (.slice p2 n2 r2)) := (Chg.setCell (p := ⟨w.heap.size, 2, none⟩) (Chg.setCell (p := ⟨w.heap.size, 1, none⟩) (Chg.setCell (p := ⟨w.heap.size, 0, none⟩) (Chg.refl (w.heap.size) (w.heap.size + 1) _) (Nat.le_refl _) (Nat.lt_succ_self _) (.int .i64 b)) (Nat.le_refl _) (Nat.lt_succ_self _) (.slice p1 n1 r1)) (Nat.le_refl _) (Nat.lt_succ_self _) (.slice p2 n2 r2))
  have Xw5 : Ext w (((w4.setCell ⟨w.heap.size, 0, none⟩ (.int .i64 b)).setCell ⟨w.heap.size, 1, none⟩ (.slice p1 n1 r1)).setCell ⟨w.heap.size, 2, none⟩ (.slice p2 n2 r2)) := (Ext.setCell (p := ⟨w.heap.size, 2, none⟩) (Ext.setCell (p := ⟨w.heap.size, 1, none⟩) (Ext.setCell (p := ⟨w.heap.size, 0, none⟩) Xw4 (by first | (simp; done) | (simp; omega) | omega) (.int .i64 b)) (by first | (simp; done) | (simp; omega) | omega) (.slice p1 n1 r1)) (by first | (simp; done) | (simp; omega) | omega) (.slice p2 n2 r2))
  have n_q0 : (((w4.setCell ⟨w.heap.size, 0, none⟩ (.int .i64 b)).setCell ⟨w.heap.size, 1, none⟩ (.slice p1 n1 r1)).setCell ⟨w.heap.size, 2, none⟩ (.slice p2 n2 r2)).cell? ⟨w.heap.size, 0, none⟩ = some (.int .i64 b) := by go_simp
  have n_f_q0 : (((w4.setCell ⟨w.heap.size, 0, none⟩ (.int .i64 b)).setCell ⟨w.heap.size, 1, none⟩ (.slice p1 n1 r1)).setCell ⟨w.heap.size, 2, none⟩ (.slice p2 n2 r2)).frozen? ⟨w.heap.size, 0, none⟩ = false := by go_simp
  have n_q1 : (((w4.setCell ⟨w.heap.size, 0, none⟩ (.int .i64 b)).setCell ⟨w.heap.size, 1, none⟩ (.slice p1 n1 r1)).setCell ⟨w.heap.size, 2, none⟩ (.slice p2 n2 r2)).cell? ⟨w.heap.size, 1, none⟩ = some (.slice p1 n1 r1) := by go_simp
  have n_f_q1 : (((w4.setCell ⟨w.heap.size, 0, none⟩ (.int .i64 b)).setCell ⟨w.heap.size, 1, none⟩ (.slice p1 n1 r1)).setCell ⟨w.heap.size, 2, none⟩ (.slice p2 n2 r2)).frozen? ⟨w.heap.size, 1, none⟩ = false := by go_simp
  have n_q2 : (((w4.setCell ⟨w.heap.size, 0, none⟩ (.int .i64 b)).setCell ⟨w.heap.size, 1, none⟩ (.slice p1 n1 r1)).setCell ⟨w.heap.size, 2, none⟩ (.slice p2 n2 r2)).cell? ⟨w.heap.size, 2, none⟩ = some (.slice p2 n2 r2) := by go_simp
  have n_f_q2 : (((w4.setCell ⟨w.heap.size, 0, none⟩ (.int .i64 b)).setCell ⟨w.heap.size, 1, none⟩ (.slice p1 n1 r1)).setCell ⟨w.heap.size, 2, none⟩ (.slice p2 n2 r2)).frozen? ⟨w.heap.size, 2, none⟩ = false := by go_simp
  replace q0 := n_q0
  clear n_q0
  replace f_q0 := n_f_q0
  clear n_f_q0
  replace q1 := n_q1
  clear n_q1
  replace f_q1 := n_f_q1
  clear n_f_q1
  replace q2 := n_q2
  clear n_q2
  replace f_q2 := n_f_q2
  clear n_f_q2
  replace v0 := Kw5.cell (by omega) v0
  replace v1 := Kw5.cell (by omega) v1
  replace v2 := Kw5.cell (by omega) v2
  replace i0 := i0.chg Kw5 (by omega)
  replace i1 := i1.chg Kw5 (by omega)
  replace i2 := i2.chg Kw5 (by omega)
  replace i3 := i3.chg Kw5 (by omega)
  clear Kw5
  have z_q : w.heap.size < (((w4.setCell ⟨w.heap.size, 0, none⟩ (.int .i64 b)).setCell ⟨w.heap.size, 1, none⟩ (.slice p1 n1 r1)).setCell ⟨w.heap.size, 2, none⟩ (.slice p2 n2 r2)).heap.size := World.block_lt_of_cell? _ _ q0
  have z_v : w2.heap.size < (((w4.setCell ⟨w.heap.size, 0, none⟩ (.int .i64 b)).setCell ⟨w.heap.size, 1, none⟩ (.slice p1 n1 r1)).setCell ⟨w.heap.size, 2, none⟩ (.slice p2 n2 r2)).heap.size := World.block_lt_of_cell? _ _ v0
  have s_w5 : w.heap.size ≤ (((w4.setCell ⟨w.heap.size, 0, none⟩ (.int .i64 b)).setCell ⟨w.heap.size, 1, none⟩ (.slice p1 n1 r1)).setCell ⟨w.heap.size, 2, none⟩ (.slice p2 n2 r2)).heap.size := Xw5.size
  generalize (((w4.setCell ⟨w.heap.size, 0, none⟩ (.int .i64 b)).setCell ⟨w.heap.size, 1, none⟩ (.slice p1 n1 r1)).setCell ⟨w.heap.size, 2, none⟩ (.slice p2 n2 r2)) = w5 at *
  refine hK.out _ _ ⟨v0, v1, v2⟩ (fun hHeld => ?_)
  clear hK K
  try simp only [Act.put, List.setIfInBounds_toArray, List.set_cons_zero, List.set_cons_succ, List.getElem_toArray, List.getElem_cons_succ, List.getElem_cons_zero]
  refine wpAnyH_take (i := 7) (v := ?_) rfl (by kernel_rfl) (by kernel_rfl) (by kernel_rfl) (fun _ _ _ h => h) (Or.inl ⟨by rfl, ?_⟩) (by assumption) ?_
  rotate_left
  · (intro w hSw; (try dsimp only at hSw); go_simp; try with_reducible rfl)
  try simp only [Act.put, List.setIfInBounds_toArray, List.set_cons_zero, List.set_cons_succ, List.getElem_toArray, List.getElem_cons_succ, List.getElem_cons_zero]
  refine wpAnyH_done (by kernel_rfl) ?_ _
  clear hHeld
  go_wp2_with fail
  refine bodyPost_ret (v := .tuple #[.slice p0 n0 r0, .agg #[.int .i64 b, .slice p1 n1 r1, .slice p2 n2 r2], .slice p3 n3 r3]) (by simp only [results, Try.results38]; go_simp) rfl ?_
  exact ⟨⟨mem, p0, n0, r0, b, s, t, p1, p2, n1, r1, n2, r2, vs, p3, n3, r3, rfl, hml, i0.lower (by omega), i1.lower (by omega), i2.lower (by omega), l1, l2, i3.lower (by omega), hvl⟩, Xw5⟩

set_option maxHeartbeats 3200000 in
theorem drawAddView_c (a : Option Addr) (n cap : Nat) (w : World) (hb : BysIn w a n cap) :
    Calls Try.prog 41 #[.slice a n cap] w (fun e w' => PMVV w.heap.size e w' ∧ Ext w w') := by
  go_enter Try.func41, Try.ntmps41
  go_wp2_with fail
  refine (drawStoreView_c a n cap _ (hb.ext (by repeat (first | (with_reducible assumption) | (with_reducible refine Ext.setCell ?_ (by first | (simp; done) | (simp; omega) | omega) _) | (with_reducible apply Ext.alloc) | (with_reducible apply Ext.drew) | (with_reducible apply Ext.drewN) | (with_reducible exact Ext.refl _))))).mono ?_
  rintro e w1 ⟨⟨mem, p0, n0, r0, b, s, t, p1, p2, n1, r1, n2, r2, vs, p3, n3, r3, rfl, hml, i0, i1, i2, l1, l2, i3, hvl⟩, xw1⟩
  have Lw1 : Ext w w1 := Ext.trans (by repeat (first | (with_reducible assumption) | (with_reducible refine Ext.setCell ?_ (by first | (simp; done) | (simp; omega) | omega) _) | (with_reducible apply Ext.alloc) | (with_reducible apply Ext.drew) | (with_reducible apply Ext.drewN) | (with_reducible exact Ext.refl _))) xw1
  have Xw1 : Ext w w1 := Lw1
  have q0 : w1.cell? ⟨w.heap.size, 0, none⟩ = some (.int .i64 0) := xw1.cell (by first | (simp; done) | ((repeat rw [World.cell?_alloc_lt _ _ _ (by simp <;> omega)]); simp; done) | (go_simp; done))
  have q1 : w1.cell? ⟨w.heap.size, 1, none⟩ = some (.slice none 0 0) := xw1.cell (by first | (simp; done) | ((repeat rw [World.cell?_alloc_lt _ _ _ (by simp <;> omega)]); simp; done) | (go_simp; done))
  have q2 : w1.cell? ⟨w.heap.size, 2, none⟩ = some (.slice none 0 0) := xw1.cell (by first | (simp; done) | ((repeat rw [World.cell?_alloc_lt _ _ _ (by simp <;> omega)]); simp; done) | (go_simp; done))
  have f_q0 : w1.frozen? ⟨w.heap.size, 0, none⟩ = false := xw1.frz (by simp <;> omega) (by first | (simp; done) | (go_simp; done))
  have f_q1 : w1.frozen? ⟨w.heap.size, 1, none⟩ = false := xw1.frz (by simp <;> omega) (by first | (simp; done) | (go_simp; done))
  have f_q2 : w1.frozen? ⟨w.heap.size, 2, none⟩ = false := xw1.frz (by simp <;> omega) (by first | (simp; done) | (go_simp; done))
  have z_q : w.heap.size < w1.heap.size := World.block_lt_of_cell? _ _ q0
  have s_w1 : w.heap.size ≤ w1.heap.size := Xw1.size
  clear xw1
  simp only [World.size_alloc] at i0 i1 i2 i3
  go_wp2_with fail
  have Kw2 : Chg (w.heap.size) (w.heap.size + 1) w1 (((w1.setCell ⟨w.heap.size, 0, none⟩ (.int .i64 b)).setCell ⟨w.heap.size, 1, none⟩ (.slice p1 n1 r1)).setCell ⟨w.heap.size, 2, none⟩ (.slice p2 n2 r2)) := (Chg.setCell (p := ⟨w.heap.size, 2, none⟩) (Chg.setCell (p := ⟨w.heap.size, 1, none⟩) (Chg.setCell (p := ⟨w.heap.size, 0, none⟩) (Chg.refl (w.heap.size) (w.heap.size + 1) _) (Nat.le_refl _) (Nat.lt_succ_self _) (.int .i64 b)) (Nat.le_refl _) (Nat.lt_succ_self _) (.slice p1 n1 r1)) (Nat.le_refl _) (Nat.lt_succ_self _) (.slice p2 n2 r2))
  have Xw2 : Ext w (((w1.setCell ⟨w.heap.size, 0, none⟩ (.int .i64 b)).setCell ⟨w.heap.size, 1, none⟩ (.slice p1 n1 r1)).setCell ⟨w.heap.size, 2, none⟩ (.slice p2 n2 r2)) := (Ext.setCell (p := ⟨w.heap.size, 2, none⟩) (Ext.setCell (p := ⟨w.heap.size, 1, none⟩) (Ext.setCell (p := ⟨w.heap.size, 0, none⟩) Xw1 (by first | (simp; done) | (simp; omega) | omega) (.int .i64 b)) (by first | (simp; done) | (simp; omega) | omega) (.slice p1 n1 r1)) (by first | (simp; done) | (simp; omega) | omega) (.slice p2 n2 r2))
  have n_q0 : (((w1.setCell ⟨w.heap.size, 0, none⟩ (.int .i64 b)).setCell ⟨w.heap.size, 1, none⟩ (.slice p1 n1 r1)).setCell ⟨w.heap.size, 2, none⟩ (.slice p2 n2 r2)).cell? ⟨w.heap.size, 0, none⟩ = some (.int .i64 b) := by go_simp
  have n_f_q0 : (((w1.setCell ⟨w.heap.size, 0, none⟩ (.int .i64 b)).setCell ⟨w.heap.size, 1, none⟩ (.slice p1 n1 r1)).setCell ⟨w.heap.size, 2, none⟩ (.slice p2 n2 r2)).frozen? ⟨w.heap.size, 0, none⟩ = false := by go_simp
  have n_q1 : (((w1.setCell ⟨w.heap.size, 0, none⟩ (.int .i64 b)).setCell ⟨w.heap.size, 1, none⟩ (.slice p1 n1 r1)).setCell ⟨w.heap.size, 2, none⟩ (.slice p2 n2 r2)).cell? ⟨w.heap.size, 1, none⟩ = some (.slice p1 n1 r1) := by go_simp
  have n_f_q1 : (((w1.setCell ⟨w.heap.size, 0, none⟩ (.int .i64 b)).setCell ⟨w.heap.size, 1, none⟩ (.slice p1 n1 r1)).setCell ⟨w.heap.size, 2, none⟩ (.slice p2 n2 r2)).frozen? ⟨w.heap.size, 1, none⟩ = false := by go_simp
  have n_q2 : (((w1.setCell ⟨w.heap.size, 0, none⟩ (.int .i64 b)).setCell ⟨w.heap.size, 1, none⟩ (.slice p1 n1 r1)).setCell ⟨w.heap.size, 2, none⟩ (.slice p2 n2 r2)).cell? ⟨w.heap.size, 2, none⟩ = some (.slice p2 n2 r2) := by go_simp
  have n_f_q2 : (((w1.setCell ⟨w.heap.size, 0, none⟩ (.int .i64 b)).setCell ⟨w.heap.size, 1, none⟩ (.slice p1 n1 r1)).setCell ⟨w.heap.size, 2, none⟩ (.slice p2 n2 r2)).frozen? ⟨w.heap.size, 2, none⟩ = false := by go_simp
  replace q0 := n_q0
  clear n_q0
  replace f_q0 := n_f_q0
  clear n_f_q0
  replace q1 := n_q1
  clear n_q1
  replace f_q1 := n_f_q1
  clear n_f_q1
  replace q2 := n_q2
  clear n_q2
  replace f_q2 := n_f_q2
  clear n_f_q2
  replace i0 := i0.chg Kw2 (by omega)
  replace i1 := i1.chg Kw2 (by omega)
  replace i2 := i2.chg Kw2 (by omega)
  replace i3 := i3.chg Kw2 (by omega)
  clear Kw2
  have z_q : w.heap.size < (((w1.setCell ⟨w.heap.size, 0, none⟩ (.int .i64 b)).setCell ⟨w.heap.size, 1, none⟩ (.slice p1 n1 r1)).setCell ⟨w.heap.size, 2, none⟩ (.slice p2 n2 r2)).heap.size := World.block_lt_of_cell? _ _ q0
  have s_w2 : w.heap.size ≤ (((w1.setCell ⟨w.heap.size, 0, none⟩ (.int .i64 b)).setCell ⟨w.heap.size, 1, none⟩ (.slice p1 n1 r1)).setCell ⟨w.heap.size, 2, none⟩ (.slice p2 n2 r2)).heap.size := Xw2.size
  generalize (((w1.setCell ⟨w.heap.size, 0, none⟩ (.int .i64 b)).setCell ⟨w.heap.size, 1, none⟩ (.slice p1 n1 r1)).setCell ⟨w.heap.size, 2, none⟩ (.slice p2 n2 r2)) = w2 at *
  refine bodyPost_ret (v := .tuple #[.slice p0 n0 r0, .agg #[.int .i64 b, .slice p1 n1 r1, .slice p2 n2 r2], .slice p3 n3 r3]) (by simp only [results, Try.results41]; go_simp) rfl ?_
  exact ⟨⟨mem, p0, n0, r0, b, s, t, p1, p2, n1, r1, n2, r2, vs, p3, n3, r3, rfl, hml, i0.lower (by omega), i1.lower (by omega), i2.lower (by omega), l1, l2, i3.lower (by omega), hvl⟩, Xw2⟩

end Go.Proofs.Ytnjaidgifccgjaa

/- Walks: a view and an index are drawn. -/
namespace Go.Proofs.Ytnjaidgifccgjaa
open Go.RowKit
set_option linter.unusedVariables false
set_option maxRecDepth 100000

/-- a view and a list are drawn -/
def PVL (lo : Nat) (e : Ending) (w' : World) : Prop := ∃ (b : Int) (s t : List Int) (p1 p2 : Option Addr) (r1 r2 : Nat) (xs : List Int) (p3 : Option Addr) (r3 : Nat), e = .returned (.tuple #[.agg #[.int .i64 b, .slice p1 s.length r1, .slice p2 t.length r2], .slice p3 xs.length r3]) ∧
  Ints w' lo (.slice p1 s.length r1) s ∧ Ints w' lo (.slice p2 t.length r2) t ∧ s.length ≤ 4 ∧ t.length ≤ 5 ∧ Ints w' lo (.slice p3 xs.length r3) xs ∧ xs.length ≤ 8
set_option maxHeartbeats 3200000 in
theorem drawOffsetAt_c (a : Option Addr) (n cap : Nat) (w : World) (hb : BysIn w a n cap) :
    Calls Try.prog 30 #[.slice a n cap] w (fun e w' => PVL w.heap.size e w' ∧ Ext w w') := by
  go_enter Try.func30, Try.ntmps30
  go_wp2_with fail
  refine (newReader_c a n cap _ (hb.ext (by repeat (first | (with_reducible assumption) | (with_reducible refine Ext.setCell ?_ (by first | (simp; done) | (simp; omega) | omega) _) | (with_reducible apply Ext.alloc) | (with_reducible apply Ext.drew) | (with_reducible apply Ext.drewN) | (with_reducible exact Ext.refl _))))).mono ?_
  rintro e w1 ⟨rfl, hr, xw1⟩
  have Lw1 : Ext w w1 := Ext.trans (by repeat (first | (with_reducible assumption) | (with_reducible refine Ext.setCell ?_ (by first | (simp; done) | (simp; omega) | omega) _) | (with_reducible apply Ext.alloc) | (with_reducible apply Ext.drew) | (with_reducible apply Ext.drewN) | (with_reducible exact Ext.refl _))) xw1
  have Xw1 : Ext w w1 := Lw1
  have q0 : w1.cell? ⟨w.heap.size, 0, none⟩ = some (.int .i64 0) := xw1.cell (by first | (simp; done) | ((repeat rw [World.cell?_alloc_lt _ _ _ (by simp <;> omega)]); simp; done) | (go_simp; done))
  have q1 : w1.cell? ⟨w.heap.size, 1, none⟩ = some (.slice none 0 0) := xw1.cell (by first | (simp; done) | ((repeat rw [World.cell?_alloc_lt _ _ _ (by simp <;> omega)]); simp; done) | (go_simp; done))
  have q2 : w1.cell? ⟨w.heap.size, 2, none⟩ = some (.slice none 0 0) := xw1.cell (by first | (simp; done) | ((repeat rw [World.cell?_alloc_lt _ _ _ (by simp <;> omega)]); simp; done) | (go_simp; done))
  have f_q0 : w1.frozen? ⟨w.heap.size, 0, none⟩ = false := xw1.frz (by simp <;> omega) (by first | (simp; done) | (go_simp; done))
  have f_q1 : w1.frozen? ⟨w.heap.size, 1, none⟩ = false := xw1.frz (by simp <;> omega) (by first | (simp; done) | (go_simp; done))
  have f_q2 : w1.frozen? ⟨w.heap.size, 2, none⟩ = false := xw1.frz (by simp <;> omega) (by first | (simp; done) | (go_simp; done))
  have z_q : w.heap.size < w1.heap.size := World.block_lt_of_cell? _ _ q0
  have s_w1 : w.heap.size ≤ w1.heap.size := Xw1.size
  clear xw1
  simp only [World.size_alloc] at hr
  have z1 := hr.lt
  clear hb
  go_wp2_with fail
  refine (someView_c _ 0 _ hr (by omega)).mono ?_
  rintro e w2 ⟨b, s, t, p1, p2, n1, r1, n2, r2, rfl, i1, i2, l1, l2, Rw2, Cw2⟩
  have zc_w2 := Cw2.size
  have Xw2 : Ext w w2 := Rch.toExt' Cw2 (by omega) (Xw1)
  replace q0 := Cw2.cell (by omega) q0
  replace f_q0 := Cw2.frzO (by omega) (by omega) f_q0
  replace q1 := Cw2.cell (by omega) q1
  replace f_q1 := Cw2.frzO (by omega) (by omega) f_q1
  replace q2 := Cw2.cell (by omega) q2
  replace f_q2 := Cw2.frzO (by omega) (by omega) f_q2
  have z_q : w.heap.size < w2.heap.size := World.block_lt_of_cell? _ _ q0
  have s_w2 : w.heap.size ≤ w2.heap.size := Xw2.size
  clear hr Cw2
  obtain rfl := i1.len_eq
  obtain rfl := i2.len_eq
  have hx3 : Ext w2 ((w2.alloc (.cells #[.int .i64 b, .slice p1 s.length r1, .slice p2 t.length r2] 25)).alloc (.cells #[] 3)) := (by repeat (first | (with_reducible assumption) | (with_reducible refine Ext.setCell ?_ (by first | (simp; done) | (simp; omega) | omega) _) | (with_reducible apply Ext.alloc) | (with_reducible apply Ext.drew) | (with_reducible apply Ext.drewN) | (with_reducible exact Ext.refl _)))
  have ho3 : OwnI ((w2.alloc (.cells #[.int .i64 b, .slice p1 s.length r1, .slice p2 t.length r2] 25)).alloc (.cells #[] 3)) (w2.heap.size + 1) (.slice (some ⟨w2.heap.size + 1, 0, none⟩) 0 0) [] := by
    have := OwnI.lit0 (w2.alloc (.cells #[.int .i64 b, .slice p1 s.length r1, .slice p2 t.length r2] 25)) (w2.heap.size + 1) (by simp)
    simpa using this
  have v0 : ((w2.alloc (.cells #[.int .i64 b, .slice p1 s.length r1, .slice p2 t.length r2] 25)).alloc (.cells #[] 3)).cell? ⟨w2.heap.size, 0, none⟩ = some (.int .i64 b) := (by first | (simp; done) | ((repeat rw [World.cell?_alloc_lt _ _ _ (by simp <;> omega)]); simp; done) | (go_simp; done))
  have v1 : ((w2.alloc (.cells #[.int .i64 b, .slice p1 s.length r1, .slice p2 t.length r2] 25)).alloc (.cells #[] 3)).cell? ⟨w2.heap.size, 1, none⟩ = some (.slice p1 s.length r1) := (by first | (simp; done) | ((repeat rw [World.cell?_alloc_lt _ _ _ (by simp <;> omega)]); simp; done) | (go_simp; done))
  have v2 : ((w2.alloc (.cells #[.int .i64 b, .slice p1 s.length r1, .slice p2 t.length r2] 25)).alloc (.cells #[] 3)).cell? ⟨w2.heap.size, 2, none⟩ = some (.slice p2 t.length r2) := (by first | (simp; done) | ((repeat rw [World.cell?_alloc_lt _ _ _ (by simp <;> omega)]); simp; done) | (go_simp; done))
  have hr3 : Rd ((w2.alloc (.cells #[.int .i64 b, .slice p1 s.length r1, .slice p2 t.length r2] 25)).alloc (.cells #[] 3)) (w.heap.size + 1) (0 + 210) := Rw2.ext hx3
  go_wp2_with fail
  go_loopw [6, 7] (fun v i wr => ∃ (k q : Nat) (xs : List Int), k ≤ s.length ∧ i = .int .i64 k ∧ Hid (xs.length = k) ∧ q ≤ 300 + 3 * k ∧ OwnI wr (w2.heap.size + 1) v xs ∧ Rd wr (w.heap.size + 1) q ∧ Chg (w.heap.size + 1) (w.heap.size + 1 + 1) w2 wr ∧ wr.cell? ⟨w2.heap.size, 0, none⟩ = some (.int .i64 b) ∧ wr.cell? ⟨w2.heap.size, 1, none⟩ = some (.slice p1 s.length r1) ∧ wr.cell? ⟨w2.heap.size, 2, none⟩ = some (.slice p2 t.length r2)) (fun _ i _ => s.length - (intOf i).toNat)
  case atStart => exact ⟨0, 210, [], Nat.zero_le _, rfl, Lib.hid rfl, by omega, ho3, hr3, Chg.of_ext hx3, v0, v1, v2⟩
  case round =>
    clear hr3 ho3 hx3 v0 v1 v2
    obtain ⟨k, q, xs, hk, rfl, hxl, hq, ho, hr, hX, v0, v1, v2⟩ := hrel
    have hz : w2.heap.size ≤ wr.heap.size := hX.size
    have hzc : w2.heap.size < wr.heap.size := World.block_lt_of_cell? _ _ v0
    by_cases hlt : k < s.length
    · have hkI : (k : Int) < s.length := by omega
      have hguard : Hid (xs.length + 1 ≤ 4194304) := Lib.hid (by have := hxl.out; omega)
      go_wp2_with fail
      refine (pick1_c 3 _ _ _ hr (by omega) (by omega)).mono ?_
      rintro e w4 ⟨xw4, rfl, hxw4, hrw4, Cw4⟩
      have how4 := ho.chg Cw4 (by omega)
      have hXw4 := hX.trans Cw4
      replace v0 := Cw4.cell (.inr (by omega)) v0
      replace v1 := Cw4.cell (.inr (by omega)) v1
      replace v2 := Cw4.cell (.inr (by omega)) v2
      have zw4 : w2.heap.size < w4.heap.size := World.block_lt_of_cell? _ _ v0
      clear Cw4 ho hr hX hxw4
      go_wp2_with fail
      refine (pick1_c 2 _ _ _ hrw4 (by omega) (by omega)).mono ?_
      rintro e w5 ⟨xw5, rfl, hxw5, hrw5, Cw5⟩
      have how5 := how4.chg Cw5 (by omega)
      have hXw5 := hXw4.trans Cw5
      replace v0 := Cw5.cell (.inr (by omega)) v0
      replace v1 := Cw5.cell (.inr (by omega)) v1
      replace v2 := Cw5.cell (.inr (by omega)) v2
      have zw5 : w2.heap.size < w5.heap.size := World.block_lt_of_cell? _ _ v0
      clear Cw5 how4 hrw4 hXw4 hxw5
      go_wp2_with fail
      refine (oneLit_c _ _ _ _ _ _ hrw5 (by omega) (by rfl) (by rfl) (by constructor <;> simp) (by first | rfl | simp)).mono ?_
      rintro e w6 ⟨x6, rfl, hx6, hr6, C6⟩
      have ho6 := (how5.ext (by repeat (first | exact Ext.refl _ | assumption | apply Ext.drewN | apply Ext.drew | apply Ext.alloc))).chg C6 (by omega)
      have hX6 := (hXw5.ext (by repeat (first | exact Ext.refl _ | assumption | apply Ext.drewN | apply Ext.drew | apply Ext.alloc))).trans C6
      have V0 := C6.cell (.inr (by omega)) (Ext.cell (w := w5) (by repeat (first | exact Ext.refl _ | assumption | apply Ext.drewN | apply Ext.drew | apply Ext.alloc)) v0)
      have V1 := C6.cell (.inr (by omega)) (Ext.cell (w := w5) (by repeat (first | exact Ext.refl _ | assumption | apply Ext.drewN | apply Ext.drew | apply Ext.alloc)) v1)
      have V2 := C6.cell (.inr (by omega)) (Ext.cell (w := w5) (by repeat (first | exact Ext.refl _ | assumption | apply Ext.drewN | apply Ext.drew | apply Ext.alloc)) v2)
      have z6 : w2.heap.size < w6.heap.size := World.block_lt_of_cell? _ _ V0
      clear C6 how5 hrw5 hXw5 hx6 v0 v1 v2
      replace ho6 := Lib.hid ho6
      replace hX6 := Lib.hid hX6
      replace hr6 := Lib.hid hr6
      replace V0 := Lib.hid V0
      replace V1 := Lib.hid V1
      replace V2 := Lib.hid V2
      go_wp2_with (at_builtin; refine wpList_app rfl (.tmp 20) (.tmp 28) rfl rfl rfl (ho6.out.ext ((Ext.refl _).alloc _)) (Ints.one _ 0 _ (Nat.zero_le _)) (by have := hguard.out; simp only [List.length_cons, List.length_nil]; omega) (by simp; omega) ?_; intro v' w7 ho7 _ hb7 _; replace ho7 := Lib.hid ho7)
      go_roundw
      case rel => exact ⟨k + 1, q + 3, xs ++ [x6], by omega, by go_num, Lib.hid (by have := hxl.out; simp; omega), by omega, ho7.out, (hr6.out.alloc _).below hb7 (by omega), Rch.below (hX6.out.ext (by repeat (first | (with_reducible assumption) | (with_reducible refine Ext.setCell ?_ (by first | (simp; done) | (simp; omega) | omega) _) | (with_reducible apply Ext.alloc) | (with_reducible apply Ext.drew) | (with_reducible apply Ext.drewN) | (with_reducible exact Ext.refl _)))) (hb7.mono (by omega)), below_cell hb7 (by omega) (by rw [World.cell?_alloc_lt _ _ _ (by simp <;> omega)]; exact V0.out), below_cell hb7 (by omega) (by rw [World.cell?_alloc_lt _ _ _ (by simp <;> omega)]; exact V1.out), below_cell hb7 (by omega) (by rw [World.cell?_alloc_lt _ _ _ (by simp <;> omega)]; exact V2.out)⟩
      case measure => simp [intOf]; omega
    · have hkI : ¬ (k : Int) < s.length := by omega
      have hxs : Hid (xs.length ≤ 8) := Lib.hid (by have := hxl.out; omega)
      obtain ⟨a5, c5, rfl⟩ := (ho.ints (by have := hxs.out; omega)).form
      have I5 := ho.ints (by have := hxs.out; omega)
      replace i1 := i1.chg hX (by omega)
      replace i2 := i2.chg hX (by omega)
      replace q0 := hX.cell (.inl (by omega)) q0
      replace q1 := hX.cell (.inl (by omega)) q1
      replace q2 := hX.cell (.inl (by omega)) q2
      replace f_q0 := hX.frzO (.inl (by omega)) (by omega) f_q0
      replace f_q1 := hX.frzO (.inl (by omega)) (by omega) f_q1
      replace f_q2 := hX.frzO (.inl (by omega)) (by omega) f_q2
      have X8 : Ext w wr := Rch.toExt' hX (by omega) Xw2
      clear ho
      go_wp2_with fail
      refine bodyPost_ret (v := .tuple #[.agg #[.int .i64 b, .slice p1 s.length r1, .slice p2 t.length r2], .slice a5 xs.length c5]) (by simp only [results, Try.results30]; go_simp) rfl ?_
      have K := Chg.three (lo := w.heap.size) wr (.int .i64 b) (.slice p1 s.length r1) (.slice p2 t.length r2)
      replace i1 := i1.chg K (by omega)
      replace i2 := i2.chg K (by omega)
      replace I5 := I5.chg K (by omega)
      have X9 : Ext w (((wr.setCell ⟨w.heap.size, 0, none⟩ (.int .i64 b)).setCell ⟨w.heap.size, 1, none⟩ (.slice p1 s.length r1)).setCell ⟨w.heap.size, 2, none⟩ (.slice p2 t.length r2)) := Ext.chg (lo := w.heap.size) (hi := w.heap.size + 1) X8 K (Nat.le_refl _)
      exact ⟨⟨b, s, t, p1, p2, r1, r2, xs, a5, c5, rfl, i1.lower (by omega), i2.lower (by omega), l1, l2, I5.lower (by omega), hxs.out⟩, X9⟩

end Go.Proofs.Ytnjaidgifccgjaa

/- Walks: OffsetsOf and IsRow of the program and of the reference. -/
namespace Go.Proofs.Ytnjaidgifccgjaa
open Go.RowKit
set_option linter.unusedVariables false
set_option maxRecDepth 100000


def offA (b : Int) (s t : List Int) : List Int := if viewB b s t then offsL b s t else []
set_option maxHeartbeats 1600000 in
theorem implOffsetsOf_c (b1 : Int) (u1 v1 : Value) (s1 t1 : List Int) (w : World) (l1 m1 : Nat) (h1 : Ints w l1 u1 s1) (k1 : Ints w m1 v1 t1) :
    Calls Try.prog 19 #[.agg #[.int .i64 b1, u1, v1]] w (PInts w (offA b1 s1 t1)) := by
  obtain ⟨a1, cp1, rfl⟩ := h1.form
  obtain ⟨a2, cp2, rfl⟩ := k1.form
  cases ha : viewB b1 s1 t1
  · have hr : Hid (offA b1 s1 t1 = []) := Lib.hid (by unfold offA; rw [ha]; rfl)
    replace ha := Lib.hid ha
    go_enter Try.func19, Try.ntmps19
    go_wp2_with fail
    refine (isView_c b1 _ _ s1 t1 _ l1 m1 (h1.ext (by repeat (first | (with_reducible assumption) | (with_reducible refine Ext.setCell ?_ (by first | (simp; done) | (simp; omega) | omega) _) | (with_reducible apply Ext.alloc) | (with_reducible apply Ext.drew) | (with_reducible apply Ext.drewN) | (with_reducible exact Ext.refl _)))) (k1.ext (by repeat (first | (with_reducible assumption) | (with_reducible refine Ext.setCell ?_ (by first | (simp; done) | (simp; omega) | omega) _) | (with_reducible apply Ext.alloc) | (with_reducible apply Ext.drew) | (with_reducible apply Ext.drewN) | (with_reducible exact Ext.refl _))))).mono ?_
    rintro e w1 ⟨rfl, xw1⟩
    have Lw1 : Ext w w1 := Ext.trans (by repeat (first | (with_reducible assumption) | (with_reducible refine Ext.setCell ?_ (by first | (simp; done) | (simp; omega) | omega) _) | (with_reducible apply Ext.alloc) | (with_reducible apply Ext.drew) | (with_reducible apply Ext.drewN) | (with_reducible exact Ext.refl _))) xw1
    have Xw1 : Ext w w1 := Lw1
    have va0 : w1.cell? ⟨w.heap.size, 0, none⟩ = some (.int .i64 b1) := xw1.cell (by first | (simp; done) | ((repeat rw [World.cell?_alloc_lt _ _ _ (by simp <;> omega)]); simp; done) | (go_simp; done))
    have va1 : w1.cell? ⟨w.heap.size, 1, none⟩ = some (.slice a1 s1.length cp1) := xw1.cell (by first | (simp; done) | ((repeat rw [World.cell?_alloc_lt _ _ _ (by simp <;> omega)]); simp; done) | (go_simp; done))
    have va2 : w1.cell? ⟨w.heap.size, 2, none⟩ = some (.slice a2 t1.length cp2) := xw1.cell (by first | (simp; done) | ((repeat rw [World.cell?_alloc_lt _ _ _ (by simp <;> omega)]); simp; done) | (go_simp; done))
    have z_va : w.heap.size < w1.heap.size := World.block_lt_of_cell? _ _ va0
    have s_w1 : w.heap.size ≤ w1.heap.size := Xw1.size
    clear xw1
    rw [ha.out]
    go_wp2_with fail
    go_ret
    rw [hr.out]
    exact PInts.nilv (Xw1.trans (by repeat (first | (with_reducible assumption) | (with_reducible refine Ext.setCell ?_ (by first | (simp; done) | (simp; omega) | omega) _) | (with_reducible apply Ext.alloc) | (with_reducible apply Ext.drew) | (with_reducible apply Ext.drewN) | (with_reducible exact Ext.refl _))))
  · have hr : Hid (offA b1 s1 t1 = offsL b1 s1 t1) := Lib.hid (by unfold offA; rw [ha]; rfl)
    obtain ⟨j1, j2, -⟩ := viewB_in ha
    have hin := Lib.hid (shapeB_in j1)
    have hj2 := Lib.hid j2
    clear j1 j2
    replace ha := Lib.hid ha
    go_enter Try.func19, Try.ntmps19
    go_wp2_with fail
    refine (isView_c b1 _ _ s1 t1 _ l1 m1 (h1.ext (by repeat (first | (with_reducible assumption) | (with_reducible refine Ext.setCell ?_ (by first | (simp; done) | (simp; omega) | omega) _) | (with_reducible apply Ext.alloc) | (with_reducible apply Ext.drew) | (with_reducible apply Ext.drewN) | (with_reducible exact Ext.refl _)))) (k1.ext (by repeat (first | (with_reducible assumption) | (with_reducible refine Ext.setCell ?_ (by first | (simp; done) | (simp; omega) | omega) _) | (with_reducible apply Ext.alloc) | (with_reducible apply Ext.drew) | (with_reducible apply Ext.drewN) | (with_reducible exact Ext.refl _))))).mono ?_
    rintro e w1 ⟨rfl, xw1⟩
    have Lw1 : Ext w w1 := Ext.trans (by repeat (first | (with_reducible assumption) | (with_reducible refine Ext.setCell ?_ (by first | (simp; done) | (simp; omega) | omega) _) | (with_reducible apply Ext.alloc) | (with_reducible apply Ext.drew) | (with_reducible apply Ext.drewN) | (with_reducible exact Ext.refl _))) xw1
    have Xw1 : Ext w w1 := Lw1
    have va0 : w1.cell? ⟨w.heap.size, 0, none⟩ = some (.int .i64 b1) := xw1.cell (by first | (simp; done) | ((repeat rw [World.cell?_alloc_lt _ _ _ (by simp <;> omega)]); simp; done) | (go_simp; done))
    have va1 : w1.cell? ⟨w.heap.size, 1, none⟩ = some (.slice a1 s1.length cp1) := xw1.cell (by first | (simp; done) | ((repeat rw [World.cell?_alloc_lt _ _ _ (by simp <;> omega)]); simp; done) | (go_simp; done))
    have va2 : w1.cell? ⟨w.heap.size, 2, none⟩ = some (.slice a2 t1.length cp2) := xw1.cell (by first | (simp; done) | ((repeat rw [World.cell?_alloc_lt _ _ _ (by simp <;> omega)]); simp; done) | (go_simp; done))
    have z_va : w.heap.size < w1.heap.size := World.block_lt_of_cell? _ _ va0
    have s_w1 : w.heap.size ≤ w1.heap.size := Xw1.size
    clear xw1
    rw [ha.out]
    go_wp2_with fail
    refine (offsetsOf_c b1 _ _ s1 t1 _ l1 m1 (h1.ext (Xw1.trans (by repeat (first | (with_reducible assumption) | (with_reducible refine Ext.setCell ?_ (by first | (simp; done) | (simp; omega) | omega) _) | (with_reducible apply Ext.alloc) | (with_reducible apply Ext.drew) | (with_reducible apply Ext.drewN) | (with_reducible exact Ext.refl _))))) (k1.ext (Xw1.trans (by repeat (first | (with_reducible assumption) | (with_reducible refine Ext.setCell ?_ (by first | (simp; done) | (simp; omega) | omega) _) | (with_reducible apply Ext.alloc) | (with_reducible apply Ext.drew) | (with_reducible apply Ext.drewN) | (with_reducible exact Ext.refl _))))) (by have := hj2.out; omega) hin.out.2.2.2.2 (by have := hin.out; omega)).mono ?_
    rintro e w2 ⟨r, rfl, i, o, xw2⟩
    have Lw2 : Ext w1 w2 := Ext.trans (by repeat (first | (with_reducible assumption) | (with_reducible refine Ext.setCell ?_ (by first | (simp; done) | (simp; omega) | omega) _) | (with_reducible apply Ext.alloc) | (with_reducible apply Ext.drew) | (with_reducible apply Ext.drewN) | (with_reducible exact Ext.refl _))) xw2
    have Xw2 : Ext w w2 := Xw1.trans Lw2
    replace va0 := Lw2.cell va0
    replace va1 := Lw2.cell va1
    replace va2 := Lw2.cell va2
    have z_va : w.heap.size < w2.heap.size := World.block_lt_of_cell? _ _ va0
    have s_w2 : w.heap.size ≤ w2.heap.size := Xw2.size
    clear xw2
    go_wp2_with fail
    go_ret
    rw [hr.out]
    exact PInts.of o i (by first | omega | (simp; omega)) (Xw2.trans (by repeat (first | (with_reducible assumption) | (with_reducible refine Ext.setCell ?_ (by first | (simp; done) | (simp; omega) | omega) _) | (with_reducible apply Ext.alloc) | (with_reducible apply Ext.drew) | (with_reducible apply Ext.drewN) | (with_reducible exact Ext.refl _))))

set_option maxHeartbeats 1600000 in
theorem specOffsetsOf_c (b1 : Int) (u1 v1 : Value) (s1 t1 : List Int) (w : World) (l1 m1 : Nat) (h1 : Ints w l1 u1 s1) (k1 : Ints w m1 v1 t1) :
    Calls Try.prog 21 #[.agg #[.int .i64 b1, u1, v1]] w (PInts w (offA b1 s1 t1)) := by
  obtain ⟨a1, cp1, rfl⟩ := h1.form
  obtain ⟨a2, cp2, rfl⟩ := k1.form
  cases ha : viewB b1 s1 t1
  · have hr : Hid (offA b1 s1 t1 = []) := Lib.hid (by unfold offA; rw [ha]; rfl)
    replace ha := Lib.hid ha
    go_enter Try.func21, Try.ntmps21
    go_wp2_with fail
    refine (validView_c b1 _ _ s1 t1 _ l1 m1 (h1.ext (by repeat (first | (with_reducible assumption) | (with_reducible refine Ext.setCell ?_ (by first | (simp; done) | (simp; omega) | omega) _) | (with_reducible apply Ext.alloc) | (with_reducible apply Ext.drew) | (with_reducible apply Ext.drewN) | (with_reducible exact Ext.refl _)))) (k1.ext (by repeat (first | (with_reducible assumption) | (with_reducible refine Ext.setCell ?_ (by first | (simp; done) | (simp; omega) | omega) _) | (with_reducible apply Ext.alloc) | (with_reducible apply Ext.drew) | (with_reducible apply Ext.drewN) | (with_reducible exact Ext.refl _))))).mono ?_
    rintro e w1 ⟨rfl, xw1⟩
    have Lw1 : Ext w w1 := Ext.trans (by repeat (first | (with_reducible assumption) | (with_reducible refine Ext.setCell ?_ (by first | (simp; done) | (simp; omega) | omega) _) | (with_reducible apply Ext.alloc) | (with_reducible apply Ext.drew) | (with_reducible apply Ext.drewN) | (with_reducible exact Ext.refl _))) xw1
    have Xw1 : Ext w w1 := Lw1
    have va0 : w1.cell? ⟨w.heap.size, 0, none⟩ = some (.int .i64 b1) := xw1.cell (by first | (simp; done) | ((repeat rw [World.cell?_alloc_lt _ _ _ (by simp <;> omega)]); simp; done) | (go_simp; done))
    have va1 : w1.cell? ⟨w.heap.size, 1, none⟩ = some (.slice a1 s1.length cp1) := xw1.cell (by first | (simp; done) | ((repeat rw [World.cell?_alloc_lt _ _ _ (by simp <;> omega)]); simp; done) | (go_simp; done))
    have va2 : w1.cell? ⟨w.heap.size, 2, none⟩ = some (.slice a2 t1.length cp2) := xw1.cell (by first | (simp; done) | ((repeat rw [World.cell?_alloc_lt _ _ _ (by simp <;> omega)]); simp; done) | (go_simp; done))
    have z_va : w.heap.size < w1.heap.size := World.block_lt_of_cell? _ _ va0
    have s_w1 : w.heap.size ≤ w1.heap.size := Xw1.size
    clear xw1
    rw [ha.out]
    go_wp2_with fail
    go_ret
    rw [hr.out]
    exact PInts.nilv (Xw1.trans (by repeat (first | (with_reducible assumption) | (with_reducible refine Ext.setCell ?_ (by first | (simp; done) | (simp; omega) | omega) _) | (with_reducible apply Ext.alloc) | (with_reducible apply Ext.drew) | (with_reducible apply Ext.drewN) | (with_reducible exact Ext.refl _))))
  · have hr : Hid (offA b1 s1 t1 = offsL b1 s1 t1) := Lib.hid (by unfold offA; rw [ha]; rfl)
    obtain ⟨j1, j2, -⟩ := viewB_in ha
    have hin := Lib.hid (shapeB_in j1)
    have hj2 := Lib.hid j2
    clear j1 j2
    replace ha := Lib.hid ha
    go_enter Try.func21, Try.ntmps21
    go_wp2_with fail
    refine (validView_c b1 _ _ s1 t1 _ l1 m1 (h1.ext (by repeat (first | (with_reducible assumption) | (with_reducible refine Ext.setCell ?_ (by first | (simp; done) | (simp; omega) | omega) _) | (with_reducible apply Ext.alloc) | (with_reducible apply Ext.drew) | (with_reducible apply Ext.drewN) | (with_reducible exact Ext.refl _)))) (k1.ext (by repeat (first | (with_reducible assumption) | (with_reducible refine Ext.setCell ?_ (by first | (simp; done) | (simp; omega) | omega) _) | (with_reducible apply Ext.alloc) | (with_reducible apply Ext.drew) | (with_reducible apply Ext.drewN) | (with_reducible exact Ext.refl _))))).mono ?_
    rintro e w1 ⟨rfl, xw1⟩
    have Lw1 : Ext w w1 := Ext.trans (by repeat (first | (with_reducible assumption) | (with_reducible refine Ext.setCell ?_ (by first | (simp; done) | (simp; omega) | omega) _) | (with_reducible apply Ext.alloc) | (with_reducible apply Ext.drew) | (with_reducible apply Ext.drewN) | (with_reducible exact Ext.refl _))) xw1
    have Xw1 : Ext w w1 := Lw1
    have va0 : w1.cell? ⟨w.heap.size, 0, none⟩ = some (.int .i64 b1) := xw1.cell (by first | (simp; done) | ((repeat rw [World.cell?_alloc_lt _ _ _ (by simp <;> omega)]); simp; done) | (go_simp; done))
    have va1 : w1.cell? ⟨w.heap.size, 1, none⟩ = some (.slice a1 s1.length cp1) := xw1.cell (by first | (simp; done) | ((repeat rw [World.cell?_alloc_lt _ _ _ (by simp <;> omega)]); simp; done) | (go_simp; done))
    have va2 : w1.cell? ⟨w.heap.size, 2, none⟩ = some (.slice a2 t1.length cp2) := xw1.cell (by first | (simp; done) | ((repeat rw [World.cell?_alloc_lt _ _ _ (by simp <;> omega)]); simp; done) | (go_simp; done))
    have z_va : w.heap.size < w1.heap.size := World.block_lt_of_cell? _ _ va0
    have s_w1 : w.heap.size ≤ w1.heap.size := Xw1.size
    clear xw1
    rw [ha.out]
    go_wp2_with fail
    refine (offsets_c b1 _ _ s1 t1 _ l1 m1 (h1.ext (Xw1.trans (by repeat (first | (with_reducible assumption) | (with_reducible refine Ext.setCell ?_ (by first | (simp; done) | (simp; omega) | omega) _) | (with_reducible apply Ext.alloc) | (with_reducible apply Ext.drew) | (with_reducible apply Ext.drewN) | (with_reducible exact Ext.refl _))))) (k1.ext (Xw1.trans (by repeat (first | (with_reducible assumption) | (with_reducible refine Ext.setCell ?_ (by first | (simp; done) | (simp; omega) | omega) _) | (with_reducible apply Ext.alloc) | (with_reducible apply Ext.drew) | (with_reducible apply Ext.drewN) | (with_reducible exact Ext.refl _))))) (by have := hj2.out; omega) hin.out.2.2.2.2 (by have := hin.out; omega)).mono ?_
    rintro e w2 ⟨r, rfl, i, o, xw2⟩
    have Lw2 : Ext w1 w2 := Ext.trans (by repeat (first | (with_reducible assumption) | (with_reducible refine Ext.setCell ?_ (by first | (simp; done) | (simp; omega) | omega) _) | (with_reducible apply Ext.alloc) | (with_reducible apply Ext.drew) | (with_reducible apply Ext.drewN) | (with_reducible exact Ext.refl _))) xw2
    have Xw2 : Ext w w2 := Xw1.trans Lw2
    replace va0 := Lw2.cell va0
    replace va1 := Lw2.cell va1
    replace va2 := Lw2.cell va2
    have z_va : w.heap.size < w2.heap.size := World.block_lt_of_cell? _ _ va0
    have s_w2 : w.heap.size ≤ w2.heap.size := Xw2.size
    clear xw2
    go_wp2_with fail
    go_ret
    rw [hr.out]
    exact PInts.of o i (by first | omega | (simp; omega)) (Xw2.trans (by repeat (first | (with_reducible assumption) | (with_reducible refine Ext.setCell ?_ (by first | (simp; done) | (simp; omega) | omega) _) | (with_reducible apply Ext.alloc) | (with_reducible apply Ext.drew) | (with_reducible apply Ext.drewN) | (with_reducible exact Ext.refl _))))


end Go.Proofs.Ytnjaidgifccgjaa

/- Walks: rowStrides of the program. -/
namespace Go.Proofs.Ytnjaidgifccgjaa
open Go.RowKit
set_option linter.unusedVariables false
set_option maxRecDepth 100000

theorem rowS_at (xs : List Int) (j : Nat) (h : j < xs.length) : ((rowS xs).take j ++ List.replicate (xs.length - j) 0).set j (prodL (xs.drop (j+1))) = (rowS xs).take (j+1) ++ List.replicate (xs.length - (j+1)) 0 := by
  have hl := rowS_len xs
  have hg : (rowS xs)[j]'(by omega) = prodL (xs.drop (j+1)) := by
    induction xs generalizing j with
    | nil => simp at h
    | cons x xs ih =>
      cases j with
      | zero => rfl
      | succ j => simpa [rowS] using ih j (by simpa using h) (rowS_len xs)
  have e : xs.length - j = (xs.length - (j+1)) + 1 := by omega
  have ht : ((rowS xs).take j).length = j := by simp; omega
  rw [e, List.replicate_succ, List.set_append_right _ _ (by omega), ht, Nat.sub_self, List.set_cons_zero, List.take_succ_eq_append_getElem (by omega), hg]
  simp

set_option maxHeartbeats 800000 in
theorem implRowStrides_c (xs : List Int) (v : Value) (w : World) (lo : Nat) (hv : Ints w lo v xs) (hs : Small xs) :
    Calls Try.prog 74 #[v] w (PInts w (rowS xs)) := by
  have hv0 := hv
  obtain ⟨a, cap, rfl, hlc, hcm, ⟨hlen, _⟩, hc⟩ := hv
  obtain ⟨i0, hi, hz0, hz1, hz2⟩ := info_parts infoInt
  have hsb := Lib.hid (fun j : Nat => (hs.drop j).count)
  clear hs
  go_enter Try.func74, Try.ntmps74
  go_wp2_with (at_make; refine wpList_make_full _ rfl _ _ 23 rfl w.heap.size 3 i0 (.int .i64 0) 1 Try.underlying23 hi hz0 hz1 .i64 .i64 _ _ xs.length rfl rfl rfl rfl (by rw [hz2]; omega) (by unfold maxLen; omega) (Nat.le_refl _) ?_)
  intro w1 hown hgr
  have hx : Ext w w1 := (Ext.refl w).grown hgr (by simp)
  rw [made_ints] at hown
  clear hgr
  go_wp2_with fail
  go_loopw [4, 10, 11, 12] (fun _ i _ _ wr => ∃ j : Nat, j ≤ xs.length ∧ i = .int .i64 (j : Int) ∧
      wr.ownsRow w.heap.size 3 1 (.slice (some ⟨w.heap.size, 0, none⟩) xs.length xs.length) xs.length (((rowS xs).take j ++ List.replicate (xs.length - j) 0).map (Value.int .i64)) ∧ Ext w wr)
    (fun _ i _ _ _ => xs.length - (intOf i).toNat)
  case atStart => exact ⟨0, Nat.zero_le _, rfl, by simpa using hown, hx⟩
  case round =>
    obtain ⟨j, hj, rfl, ho, hxr⟩ := hrel
    by_cases hlt : j < xs.length
    · have hI : (j : Int) < xs.length := by omega
      obtain ⟨b, off, rfl, _, hcell, _⟩ := hc j hlt
      obtain ⟨hoc, hof⟩ := own_cell ho j (by omega)
      have hst := Lib.hid (own_set ho j (prodL (xs.drop (j+1))) (by omega))
      have hset := Lib.hid (rowS_at xs j hlt)
      have hcn := Lib.hid (hsb.out (j+1)).1
      have hwr : IntKind.i64.wrap ((j : Int) + 1) = (j : Int) + 1 := IntWalk.i64_in _ (by omega)
      clear hc ho hcell
      by_cases hcp : cap = j + 1
      · subst hcp
        have hdr := (hv0.ext hxr).drop0 (j+1) (by omega) rfl
        rw [show xs.length - (j+1) = 0 by omega] at hdr
        go_wp2_with fail
        refine (countOf_c _ _ _ _ hdr).mono ?_
        rintro e w' ⟨rfl, rfl⟩
        rw [hcn.out]
        go_wp2_with fail
        go_roundw
        case rel => exact ⟨j + 1, by omega, by go_num, by have := hst.out; rw [hset.out] at this; exact this, hxr.setCell (Nat.le_refl _) _⟩
        case measure => simp [intOf]; omega
      · have hdr := (hv0.ext hxr).drop1 (j+1) (by omega) hcp
        go_wp2_with fail
        refine (countOf_c _ _ _ _ hdr).mono ?_
        rintro e w' ⟨rfl, rfl⟩
        rw [hcn.out]
        go_wp2_with fail
        go_roundw
        case rel => exact ⟨j + 1, by omega, by go_num, by have := hst.out; rw [hset.out] at this; exact this, hxr.setCell (Nat.le_refl _) _⟩
        case measure => simp [intOf]; omega
    · obtain rfl : j = xs.length := by omega
      have hIn : ¬ ((xs.length : Int) < xs.length) := by omega
      go_wp2_with fail
      go_ret
      refine PInts.mk (base := w.heap.size) ?_ (Nat.le_refl _) (by rw [rowS_len]; omega) hxr
      unfold OwnI; rw [rowS_len]
      rw [List.take_of_length_le (by rw [rowS_len]; exact Nat.le_refl _)] at ho
      simpa using ho
end Go.Proofs.Ytnjaidgifccgjaa

/- Walks: LoadView of the program and of the reference. -/
namespace Go.Proofs.Ytnjaidgifccgjaa
open Go.RowKit
set_option linter.unusedVariables false
set_option maxRecDepth 100000


def loadA (mem : List Int) (b : Int) (s t : List Int) : List Int := if holdB mem b s t then loadL mem b s t else []
theorem PInts.no {w w' : World} (h : Ext w w') : PInts w [] (.returned (.slice none 0 0)) w' :=
  ⟨_, rfl, Ints.nil _ _ _ _ (by simp) (fun _ => rfl), .inl ⟨rfl, none, 0, rfl, by simp, fun _ => rfl⟩, h⟩

set_option maxHeartbeats 1600000 in
theorem implLoadView_c (mem : List Int) (a0 : Value) (b1 : Int) (u1 v1 : Value) (s1 t1 : List Int) (w : World) (l0 l1 m1 : Nat) (h0 : Ints w l0 a0 mem) (h1 : Ints w l1 u1 s1) (k1 : Ints w m1 v1 t1) :
    Calls Try.prog 34 #[a0, .agg #[.int .i64 b1, u1, v1]] w (PInts w (loadA mem b1 s1 t1)) := by
  obtain ⟨p0, c0, rfl⟩ := h0.form
  obtain ⟨p1, c1, rfl⟩ := h1.form
  obtain ⟨p2, c2, rfl⟩ := k1.form
  go_enter Try.func34, Try.ntmps34
  go_wp2_with fail
  refine (canHold_c mem (.slice p0 mem.length c0) b1 (.slice p1 s1.length c1) (.slice p2 t1.length c2) s1 t1 _ _ _ _ (h0.ext (by repeat (first | (with_reducible assumption) | (with_reducible refine Ext.setCell ?_ (by first | (simp; done) | (simp; omega) | omega) _) | (with_reducible apply Ext.alloc) | (with_reducible apply Ext.drew) | (with_reducible apply Ext.drewN) | (with_reducible exact Ext.refl _)))) (h1.ext (by repeat (first | (with_reducible assumption) | (with_reducible refine Ext.setCell ?_ (by first | (simp; done) | (simp; omega) | omega) _) | (with_reducible apply Ext.alloc) | (with_reducible apply Ext.drew) | (with_reducible apply Ext.drewN) | (with_reducible exact Ext.refl _)))) (k1.ext (by repeat (first | (with_reducible assumption) | (with_reducible refine Ext.setCell ?_ (by first | (simp; done) | (simp; omega) | omega) _) | (with_reducible apply Ext.alloc) | (with_reducible apply Ext.drew) | (with_reducible apply Ext.drewN) | (with_reducible exact Ext.refl _))))).mono ?_
  rintro e w1 ⟨rfl, xw1⟩
  have Lw1 : Ext w w1 := Ext.trans (by repeat (first | (with_reducible assumption) | (with_reducible refine Ext.setCell ?_ (by first | (simp; done) | (simp; omega) | omega) _) | (with_reducible apply Ext.alloc) | (with_reducible apply Ext.drew) | (with_reducible apply Ext.drewN) | (with_reducible exact Ext.refl _))) xw1
  have Xw1 : Ext w w1 := Lw1
  have b10 : w1.cell? ⟨w.heap.size, 0, none⟩ = some (.int .i64 b1) := xw1.cell (by first | (simp; done) | ((repeat rw [World.cell?_alloc_lt _ _ _ (by simp <;> omega)]); simp; done) | (go_simp; done))
  have b11 : w1.cell? ⟨w.heap.size, 1, none⟩ = some (.slice p1 s1.length c1) := xw1.cell (by first | (simp; done) | ((repeat rw [World.cell?_alloc_lt _ _ _ (by simp <;> omega)]); simp; done) | (go_simp; done))
  have b12 : w1.cell? ⟨w.heap.size, 2, none⟩ = some (.slice p2 t1.length c2) := xw1.cell (by first | (simp; done) | ((repeat rw [World.cell?_alloc_lt _ _ _ (by simp <;> omega)]); simp; done) | (go_simp; done))
  have z_b1 : w.heap.size < w1.heap.size := World.block_lt_of_cell? _ _ b10
  have s_w1 : w.heap.size ≤ w1.heap.size := Xw1.size
  clear xw1
  cases hB2 : holdB mem b1 s1 t1
  · replace hB2 := Lib.hid hB2
    go_wp2_with fail
    go_ret
    rw [show loadA mem b1 s1 t1 = [] by unfold loadA; rw [hB2.out]; rfl]
    exact PInts.no (Xw1.trans (by repeat (first | (with_reducible assumption) | (with_reducible refine Ext.setCell ?_ (by first | (simp; done) | (simp; omega) | omega) _) | (with_reducible apply Ext.alloc) | (with_reducible apply Ext.drew) | (with_reducible apply Ext.drewN) | (with_reducible exact Ext.refl _))))
  · replace hB2 := Lib.hid hB2
    go_wp2_with fail
    refine (loadView_c mem (.slice p0 mem.length c0) b1 (.slice p1 s1.length c1) (.slice p2 t1.length c2) s1 t1 _ _ _ _ (h0.ext (Xw1.trans (by repeat (first | (with_reducible assumption) | (with_reducible refine Ext.setCell ?_ (by first | (simp; done) | (simp; omega) | omega) _) | (with_reducible apply Ext.alloc) | (with_reducible apply Ext.drew) | (with_reducible apply Ext.drewN) | (with_reducible exact Ext.refl _))))) (h1.ext (Xw1.trans (by repeat (first | (with_reducible assumption) | (with_reducible refine Ext.setCell ?_ (by first | (simp; done) | (simp; omega) | omega) _) | (with_reducible apply Ext.alloc) | (with_reducible apply Ext.drew) | (with_reducible apply Ext.drewN) | (with_reducible exact Ext.refl _))))) (k1.ext (Xw1.trans (by repeat (first | (with_reducible assumption) | (with_reducible refine Ext.setCell ?_ (by first | (simp; done) | (simp; omega) | omega) _) | (with_reducible apply Ext.alloc) | (with_reducible apply Ext.drew) | (with_reducible apply Ext.drewN) | (with_reducible exact Ext.refl _))))) hB2.out).mono ?_
    rintro e w2 ⟨fv3, rfl, i4, i4z, xw2⟩
    have Lw2 : Ext w1 w2 := Ext.trans (by repeat (first | (with_reducible assumption) | (with_reducible refine Ext.setCell ?_ (by first | (simp; done) | (simp; omega) | omega) _) | (with_reducible apply Ext.alloc) | (with_reducible apply Ext.drew) | (with_reducible apply Ext.drewN) | (with_reducible exact Ext.refl _))) xw2
    have Xw2 : Ext w w2 := Xw1.trans Lw2
    replace b10 := Lw2.cell b10
    replace b11 := Lw2.cell b11
    replace b12 := Lw2.cell b12
    have z_b1 : w.heap.size < w2.heap.size := World.block_lt_of_cell? _ _ b10
    have s_w2 : w.heap.size ≤ w2.heap.size := Xw2.size
    clear xw2
    obtain ⟨afv3, cfv3, rfl⟩ := i4.form
    go_wp2_with fail
    go_ret
    rw [show loadA mem b1 s1 t1 = loadL mem b1 s1 t1 by unfold loadA; rw [hB2.out]; rfl]
    exact ⟨_, rfl, i4.lower (by omega), i4z.lower (by omega), Xw2⟩

set_option maxHeartbeats 1600000 in
theorem specLoadView_c (mem : List Int) (a0 : Value) (b1 : Int) (u1 v1 : Value) (s1 t1 : List Int) (w : World) (l0 l1 m1 : Nat) (h0 : Ints w l0 a0 mem) (h1 : Ints w l1 u1 s1) (k1 : Ints w m1 v1 t1) :
    Calls Try.prog 35 #[a0, .agg #[.int .i64 b1, u1, v1]] w (PInts w (loadA mem b1 s1 t1)) := by
  obtain ⟨p0, c0, rfl⟩ := h0.form
  obtain ⟨p1, c1, rfl⟩ := h1.form
  obtain ⟨p2, c2, rfl⟩ := k1.form
  go_enter Try.func35, Try.ntmps35
  go_wp2_with fail
  refine (sees_c mem (.slice p0 mem.length c0) b1 (.slice p1 s1.length c1) (.slice p2 t1.length c2) s1 t1 _ _ _ _ (h0.ext (by repeat (first | (with_reducible assumption) | (with_reducible refine Ext.setCell ?_ (by first | (simp; done) | (simp; omega) | omega) _) | (with_reducible apply Ext.alloc) | (with_reducible apply Ext.drew) | (with_reducible apply Ext.drewN) | (with_reducible exact Ext.refl _)))) (h1.ext (by repeat (first | (with_reducible assumption) | (with_reducible refine Ext.setCell ?_ (by first | (simp; done) | (simp; omega) | omega) _) | (with_reducible apply Ext.alloc) | (with_reducible apply Ext.drew) | (with_reducible apply Ext.drewN) | (with_reducible exact Ext.refl _)))) (k1.ext (by repeat (first | (with_reducible assumption) | (with_reducible refine Ext.setCell ?_ (by first | (simp; done) | (simp; omega) | omega) _) | (with_reducible apply Ext.alloc) | (with_reducible apply Ext.drew) | (with_reducible apply Ext.drewN) | (with_reducible exact Ext.refl _))))).mono ?_
  rintro e w1 ⟨rfl, xw1⟩
  have Lw1 : Ext w w1 := Ext.trans (by repeat (first | (with_reducible assumption) | (with_reducible refine Ext.setCell ?_ (by first | (simp; done) | (simp; omega) | omega) _) | (with_reducible apply Ext.alloc) | (with_reducible apply Ext.drew) | (with_reducible apply Ext.drewN) | (with_reducible exact Ext.refl _))) xw1
  have Xw1 : Ext w w1 := Lw1
  have b10 : w1.cell? ⟨w.heap.size, 0, none⟩ = some (.int .i64 b1) := xw1.cell (by first | (simp; done) | ((repeat rw [World.cell?_alloc_lt _ _ _ (by simp <;> omega)]); simp; done) | (go_simp; done))
  have b11 : w1.cell? ⟨w.heap.size, 1, none⟩ = some (.slice p1 s1.length c1) := xw1.cell (by first | (simp; done) | ((repeat rw [World.cell?_alloc_lt _ _ _ (by simp <;> omega)]); simp; done) | (go_simp; done))
  have b12 : w1.cell? ⟨w.heap.size, 2, none⟩ = some (.slice p2 t1.length c2) := xw1.cell (by first | (simp; done) | ((repeat rw [World.cell?_alloc_lt _ _ _ (by simp <;> omega)]); simp; done) | (go_simp; done))
  have z_b1 : w.heap.size < w1.heap.size := World.block_lt_of_cell? _ _ b10
  have s_w1 : w.heap.size ≤ w1.heap.size := Xw1.size
  clear xw1
  cases hB2 : holdB mem b1 s1 t1
  · replace hB2 := Lib.hid hB2
    go_wp2_with fail
    go_ret
    rw [show loadA mem b1 s1 t1 = [] by unfold loadA; rw [hB2.out]; rfl]
    exact PInts.no (Xw1.trans (by repeat (first | (with_reducible assumption) | (with_reducible refine Ext.setCell ?_ (by first | (simp; done) | (simp; omega) | omega) _) | (with_reducible apply Ext.alloc) | (with_reducible apply Ext.drew) | (with_reducible apply Ext.drewN) | (with_reducible exact Ext.refl _))))
  · replace hB2 := Lib.hid hB2
    go_wp2_with fail
    refine (load_c mem (.slice p0 mem.length c0) b1 (.slice p1 s1.length c1) (.slice p2 t1.length c2) s1 t1 _ _ _ _ (h0.ext (Xw1.trans (by repeat (first | (with_reducible assumption) | (with_reducible refine Ext.setCell ?_ (by first | (simp; done) | (simp; omega) | omega) _) | (with_reducible apply Ext.alloc) | (with_reducible apply Ext.drew) | (with_reducible apply Ext.drewN) | (with_reducible exact Ext.refl _))))) (h1.ext (Xw1.trans (by repeat (first | (with_reducible assumption) | (with_reducible refine Ext.setCell ?_ (by first | (simp; done) | (simp; omega) | omega) _) | (with_reducible apply Ext.alloc) | (with_reducible apply Ext.drew) | (with_reducible apply Ext.drewN) | (with_reducible exact Ext.refl _))))) (k1.ext (Xw1.trans (by repeat (first | (with_reducible assumption) | (with_reducible refine Ext.setCell ?_ (by first | (simp; done) | (simp; omega) | omega) _) | (with_reducible apply Ext.alloc) | (with_reducible apply Ext.drew) | (with_reducible apply Ext.drewN) | (with_reducible exact Ext.refl _))))) hB2.out).mono ?_
    rintro e w2 ⟨fv3, rfl, i4, i4z, xw2⟩
    have Lw2 : Ext w1 w2 := Ext.trans (by repeat (first | (with_reducible assumption) | (with_reducible refine Ext.setCell ?_ (by first | (simp; done) | (simp; omega) | omega) _) | (with_reducible apply Ext.alloc) | (with_reducible apply Ext.drew) | (with_reducible apply Ext.drewN) | (with_reducible exact Ext.refl _))) xw2
    have Xw2 : Ext w w2 := Xw1.trans Lw2
    replace b10 := Lw2.cell b10
    replace b11 := Lw2.cell b11
    replace b12 := Lw2.cell b12
    have z_b1 : w.heap.size < w2.heap.size := World.block_lt_of_cell? _ _ b10
    have s_w2 : w.heap.size ≤ w2.heap.size := Xw2.size
    clear xw2
    obtain ⟨afv3, cfv3, rfl⟩ := i4.form
    go_wp2_with fail
    go_ret
    rw [show loadA mem b1 s1 t1 = loadL mem b1 s1 t1 by unfold loadA; rw [hB2.out]; rfl]
    exact ⟨_, rfl, i4.lower (by omega), i4z.lower (by omega), Xw2⟩


end Go.Proofs.Ytnjaidgifccgjaa

/- Walks: indices, ranks, rows, sums. -/
namespace Go.Proofs.Ytnjaidgifccgjaa
open Go.RowKit
set_option linter.unusedVariables false
set_option maxRecDepth 100000


theorem vw {b : Int} {s t : List Int} (h : viewB b s t = true) : s.length ≤ t.length ∧ (0 < countL s → ∀ e ∈ s, 1 ≤ e) ∧ countL s ≤ 1000000 ∧ Small s := by
  obtain ⟨h1, h2, h3, h4, h5⟩ := viewB_in h
  have h6 := shapeB_in h1
  exact ⟨by omega, h6.2.2.2.2, by omega, Small.of h1⟩
theorem sh {s : List Int} (h : shapeB s = true) : Small s ∧ (0 < countL s → ∀ e ∈ s, 1 ≤ e) ∧ countL s ≤ 1000000 := by
  have h6 := shapeB_in h
  exact ⟨Small.of h, h6.2.2.2.2, by omega⟩
/-- the first k numbers are within the extents -/
def OkTo (s r : List Int) (k : Nat) : Prop := ∀ j, j < k → 0 ≤ r.getD j 0 ∧ r.getD j 0 < s.getD j 0
theorem OkTo.zero (s r : List Int) : OkTo s r 0 := fun j h => absurd h (by omega)
theorem OkTo.succ {s r : List Int} {k : Nat} (h : OkTo s r k) {x e : Int} (hx : r.getD k 0 = x) (he : s.getD k 0 = e) (h1 : 0 ≤ x) (h2 : x < e) : OkTo s r (k+1) := fun j hj => by
  by_cases hjk : j = k
  · subst hjk; rw [hx, he]; exact ⟨h1, h2⟩
  · exact h j (by omega)
theorem ixOf_ok : ∀ (s r : List Int), r.length = s.length → (IxOf s r ↔ OkTo s r r.length)
  | [], [], _ => ⟨fun _ => OkTo.zero _ _, fun _ => trivial⟩
  | [], x :: r, h => by simp at h
  | e :: s, [], h => by simp at h
  | e :: s, x :: r, h => by
    have ih := ixOf_ok s r (by simpa using h)
    constructor
    · rintro ⟨h1, h2⟩ j hj
      cases j with
      | zero => simpa using h1
      | succ j => have := (ih.1 h2) j (by simpa using hj); simpa using this
    · intro hk
      refine ⟨by simpa using hk 0 (by simp), ih.2 fun j hj => by have := hk (j+1) (by simpa using hj); simpa using this⟩
theorem ixB_ok {s r : List Int} (hl : r.length = s.length) (h : OkTo s r r.length) : ixB s r = true := (ixB_iff s r).2 ((ixOf_ok s r hl).2 h)
theorem ixB_no {s r : List Int} {k : Nat} (hk : k < r.length) {x e : Int} (hx : r.getD k 0 = x) (he : s.getD k 0 = e) (h : x < 0 ∨ e ≤ x) : ixB s r = false := by
  cases hb : ixB s r with
  | false => rfl
  | true =>
    have h1 := (ixB_iff s r).1 hb
    have h2 := (ixOf_ok s r h1.len).1 h1 k hk
    rw [hx, he] at h2; omega
theorem ixB_len {s r : List Int} (h : r.length ≠ s.length) : ixB s r = false := by unfold ixB; simp [h]

set_option maxHeartbeats 1600000 in
theorem isIndex_c (s r : List Int) (v1 v2 : Value) (w : World) (l1 l2 : Nat) (h1 : Ints w l1 v1 s) (h2 : Ints w l2 v2 r) :
    Calls Try.prog 72 #[v1, v2] w (fun e w' => e = .returned (.bool (ixB s r)) ∧ w = w') := by
  have n1 := h1.len
  have n2 := h2.len
  obtain ⟨p1, c1, rfl⟩ := h1.form
  obtain ⟨p2, c2, rfl⟩ := h2.form
  go_enter Try.func72, Try.ntmps72
  by_cases hc1 : (r.length : Int) = (s.length : Int)
  · have hc1e : ((r.length : Int) == (s.length : Int)) = true := by simpa using hc1
    have hc1n : ((r.length : Int) != (s.length : Int)) = false := by simpa using hc1
    replace hc1 := Lib.hid hc1
    go_wp2_with fail
    go_loop [14] (fun i => ∃ (k : Nat), k ≤ r.length ∧ i = .int .i64 k ∧ Hid (OkTo s r k)) (fun i => r.length - (intOf i).toNat)
    case atStart => exact ⟨0, Nat.zero_le _, rfl, Lib.hid (OkTo.zero _ _)⟩
    case round =>
      obtain ⟨k, hk, rfl, hok⟩ := hrel
      by_cases hlt : k < r.length
      · have hkI : (k : Int) < r.length := by omega
        have hks : k < s.length := by have := hc1.out; omega
        obtain ⟨bl2, ol3, rfl, e40⟩ := h2.at k (by omega)
        obtain ⟨v5, hv5⟩ : ∃ v, r.getD k 0 = v := ⟨_, rfl⟩
        rw [hv5] at e40
        replace hv5 := Lib.hid hv5
        have y_e4 : bl2 < w.heap.size := World.block_lt_of_cell? _ _ e40
        have z_e4 := y_e4
        by_cases hc6 : (v5 : Int) < (0 : Int)
        · go_wp2_with fail
          go_ret
          exact ⟨by rw [show ixB s r = false from ixB_no (by omega) hv5.out rfl (by omega)] <;> rfl, rfl⟩
        · obtain ⟨bl7, ol8, rfl, e90⟩ := h1.at k (by omega)
          obtain ⟨v10, hv10⟩ : ∃ v, s.getD k 0 = v := ⟨_, rfl⟩
          rw [hv10] at e90
          replace hv10 := Lib.hid hv10
          have y_e9 : bl7 < w.heap.size := World.block_lt_of_cell? _ _ e90
          have z_e9 := y_e9
          by_cases hc11 : (v10 : Int) ≤ (v5 : Int)
          · go_wp2_with fail
            go_ret
            exact ⟨by rw [show ixB s r = false from ixB_no (by omega) hv5.out hv10.out (by omega)] <;> rfl, rfl⟩
          · go_wp2_with fail
            go_round
            case rel => exact ⟨k + 1, by omega, by go_num, Lib.hid (hok.out.succ hv5.out hv10.out (by omega) (by omega))⟩
            case measure => simp [intOf]; omega
      · have hkI : ¬ (k : Int) < r.length := by omega
        go_wp2_with fail
        go_ret
        exact ⟨by rw [show ixB s r = true from ixB_ok (by have := hc1.out; omega) (by have := hok.out; rwa [show k = r.length by omega] at this)] <;> rfl, rfl⟩
  · have hc1e : ((r.length : Int) == (s.length : Int)) = false := by simpa using hc1
    have hc1n : ((r.length : Int) != (s.length : Int)) = true := by simpa using hc1
    replace hc1 := Lib.hid hc1
    go_wp2_with fail
    go_ret
    exact ⟨by rw [show ixB s r = false from ixB_len (by have := hc1.out; omega)] <;> rfl, rfl⟩

set_option maxHeartbeats 1600000 in
theorem validIndex_c (s r : List Int) (v1 v2 : Value) (w : World) (l1 l2 : Nat) (h1 : Ints w l1 v1 s) (h2 : Ints w l2 v2 r) (hsm : Small s) :
    Calls Try.prog 79 #[v1, v2] w (fun e w' => e = .returned (.bool (ixB s r)) ∧ Ext w w') := by
  have n1 := h1.len
  have n2 := h2.len
  obtain ⟨p1, c1, rfl⟩ := h1.form
  obtain ⟨p2, c2, rfl⟩ := h2.form
  replace hsm := Lib.hid hsm.2
  go_enter Try.func79, Try.ntmps79
  by_cases hc1 : (r.length : Int) = (s.length : Int)
  · have hc1e : ((r.length : Int) == (s.length : Int)) = true := by simpa using hc1
    have hc1n : ((r.length : Int) != (s.length : Int)) = false := by simpa using hc1
    replace hc1 := Lib.hid hc1
    go_wp2_with fail
    go_loopw [5] (fun i wr => ∃ (k : Nat), k ≤ r.length ∧ i = .int .i64 k ∧ Hid (OkTo s r k) ∧ Ext w wr) (fun i _ => r.length - (intOf i).toNat)
    case atStart => exact ⟨0, Nat.zero_le _, rfl, Lib.hid (OkTo.zero _ _), (by repeat (first | (with_reducible assumption) | (with_reducible refine Ext.setCell ?_ (by first | (simp; done) | (simp; omega) | omega) _) | (with_reducible apply Ext.alloc) | (with_reducible apply Ext.drew) | (with_reducible apply Ext.drewN) | (with_reducible exact Ext.refl _)))⟩
    case round =>
      obtain ⟨k, hk, rfl, hok, Lwr⟩ := hrel
      have Xwr : Ext w wr := Lwr
      have s_wr : w.heap.size ≤ wr.heap.size := Xwr.size
      have t_wr : w.heap.size ≤ wr.heap.size := Lwr.size
      have Bwr : Ext w wr := Lwr
      by_cases hlt : k < r.length
      · have hkI : (k : Int) < r.length := by omega
        have hks : k < s.length := by have := hc1.out; omega
        go_wp2_with fail
        obtain ⟨bl2, ol3, rfl, e40⟩ := (h2.ext Xwr).at k (by omega)
        obtain ⟨v5, hv5⟩ : ∃ v, r.getD k 0 = v := ⟨_, rfl⟩
        rw [hv5] at e40
        replace hv5 := Lib.hid hv5
        have y_e4 : bl2 < wr.heap.size := World.block_lt_of_cell? _ _ e40
        have z_e4 := y_e4
        obtain ⟨bl6, ol7, rfl, e80⟩ := (h1.ext Xwr).at k (by omega)
        obtain ⟨v9, hv9⟩ : ∃ v, s.getD k 0 = v := ⟨_, rfl⟩
        rw [hv9] at e80
        replace hv9 := Lib.hid hv9
        have y_e8 : bl6 < wr.heap.size := World.block_lt_of_cell? _ _ e80
        have z_e8 := y_e8
        have hsI := hsm.out (s.getD k 0) (getD_mem hks)
        rw [hv9.out] at hsI
        refine wp_region_tail (S := fun w' => w'.cell? ⟨bl2, ol3 + k, none⟩ = some (.int .i64 v5) ∧ w'.cell? ⟨bl6, ol7 + k, none⟩ = some (.int .i64 v9)) (fun i => decide (11 ≤ i)) (by kernel_rfl) ⟨e40, e80⟩ (fun hHeld => ?_)
        refine wpTail_take (i := 0) (v := ?_) rfl (by kernel_rfl) (by kernel_rfl) (by kernel_rfl) rfl (by kernel_rfl) (fun _ _ _ h => h) (Or.inl ⟨by rfl, ?_⟩) (by assumption) ?_
        rotate_left
        · (intro w hSw; (try dsimp only at hSw); go_simp; try with_reducible rfl)
        try simp only [Act.put, List.setIfInBounds_toArray, List.set_cons_zero, List.set_cons_succ, List.getElem_toArray, List.getElem_cons_succ, List.getElem_cons_zero]
        refine wpTail_take (i := 1) (v := ?_) rfl (by kernel_rfl) (by kernel_rfl) (by kernel_rfl) rfl (by kernel_rfl) (fun _ _ _ h => h) (Or.inl ⟨by rfl, ?_⟩) (by assumption) ?_
        rotate_left
        · (intro w hSw; (try dsimp only at hSw); go_simp; try with_reducible rfl)
        try simp only [Act.put, List.setIfInBounds_toArray, List.set_cons_zero, List.set_cons_succ, List.getElem_toArray, List.getElem_cons_succ, List.getElem_cons_zero]
        refine wpTail_take (i := 2) (v := ?_) rfl (by kernel_rfl) (by kernel_rfl) (by kernel_rfl) rfl (by kernel_rfl) (fun _ _ _ h => h) (Or.inl ⟨by rfl, ?_⟩) (by assumption) ?_
        rotate_left
        · (intro w hSw; (try dsimp only at hSw); go_simp; try with_reducible rfl)
        try simp only [Act.put, List.setIfInBounds_toArray, List.set_cons_zero, List.set_cons_succ, List.getElem_toArray, List.getElem_cons_succ, List.getElem_cons_zero]
        refine wpTail_take (i := 3) (v := ?_) rfl (by kernel_rfl) (by kernel_rfl) (by kernel_rfl) rfl (by kernel_rfl) (fun _ _ _ h => h) (Or.inl ⟨by rfl, ?_⟩) (by assumption) ?_
        rotate_left
        · (intro w hSw; (try dsimp only at hSw); go_simp; try with_reducible rfl)
        try simp only [Act.put, List.setIfInBounds_toArray, List.set_cons_zero, List.set_cons_succ, List.getElem_toArray, List.getElem_cons_succ, List.getElem_cons_zero]
        refine wpTail_take (i := 4) (v := ?_) rfl (by kernel_rfl) (by kernel_rfl) (by kernel_rfl) rfl (by kernel_rfl) (fun _ _ _ h => h) (Or.inl ⟨by rfl, ?_⟩) (by assumption) ?_
        rotate_left
        · (intro w hSw; (try dsimp only at hSw); go_simp; try with_reducible rfl)
        try simp only [Act.put, List.setIfInBounds_toArray, List.set_cons_zero, List.set_cons_succ, List.getElem_toArray, List.getElem_cons_succ, List.getElem_cons_zero]
        refine wpTail_take (i := 5) (v := ?_) rfl (by kernel_rfl) (by kernel_rfl) (by kernel_rfl) rfl (by kernel_rfl) (fun _ _ _ h => h) (Or.inl ⟨by rfl, ?_⟩) (by assumption) ?_
        rotate_left
        · (intro w hSw; (try dsimp only at hSw); go_simp; try with_reducible rfl)
        try simp only [Act.put, List.setIfInBounds_toArray, List.set_cons_zero, List.set_cons_succ, List.getElem_toArray, List.getElem_cons_succ, List.getElem_cons_zero]
        refine wpTail_take (i := 6) (v := ?_) rfl (by kernel_rfl) (by kernel_rfl) (by kernel_rfl) rfl (by kernel_rfl) (fun _ _ _ h => h) (Or.inl ⟨by rfl, ?_⟩) (by assumption) ?_
        rotate_left
        · (intro w hSw; (try dsimp only at hSw); go_simp; try with_reducible rfl)
        try simp only [Act.put, List.setIfInBounds_toArray, List.set_cons_zero, List.set_cons_succ, List.getElem_toArray, List.getElem_cons_succ, List.getElem_cons_zero]
        refine wpTail_take (i := 7) (v := ?_) rfl (by kernel_rfl) (by kernel_rfl) (by kernel_rfl) rfl (by kernel_rfl) (fun _ _ _ h => h) (Or.inl ⟨by rfl, ?_⟩) (by assumption) ?_
        rotate_left
        · (intro w hSw; (try dsimp only at hSw); go_simp; try with_reducible rfl)
        try simp only [Act.put, List.setIfInBounds_toArray, List.set_cons_zero, List.set_cons_succ, List.getElem_toArray, List.getElem_cons_succ, List.getElem_cons_zero]
        have hw16 : IntKind.i64.wrap (v9 - 1) = v9 - 1 := IntWalk.i64_in _ (by omega)
        refine wpTail_take (i := 8) (v := ?_) rfl (by kernel_rfl) (by kernel_rfl) (by kernel_rfl) rfl (by kernel_rfl) (fun _ _ _ h => h) (Or.inl ⟨by rfl, ?_⟩) (by assumption) ?_
        rotate_left
        · (intro w hSw; (try dsimp only at hSw); go_simp; try with_reducible rfl)
        try simp only [Act.put, List.setIfInBounds_toArray, List.set_cons_zero, List.set_cons_succ, List.getElem_toArray, List.getElem_cons_succ, List.getElem_cons_zero]
        refine wpTail_one (i := 9) (by kernel_rfl) rfl rfl (fun K hK => ?_)
        try simp only [Act.put, List.setIfInBounds_toArray, List.set_cons_zero, List.set_cons_succ, List.getElem_toArray, List.getElem_cons_succ, List.getElem_cons_zero]
        go_simp
        refine (inRange_c v5 0 (v9 - 1) _).mono ?_
        rintro e w' ⟨rfl, rfl⟩
        cases hB17 : inB 0 (v9 - 1) v5
        · replace hB17 := Lib.hid hB17
          have hin := hB17.out
          simp only [inB, decide_eq_false_iff_not] at hin
          replace hin : v5 < 0 ∨ v9 ≤ v5 := by omega
          refine hK.out _ _ ⟨e40, e80⟩ (fun hHeld => ?_)
          clear hK K
          try simp only [Act.put, List.setIfInBounds_toArray, List.set_cons_zero, List.set_cons_succ, List.getElem_toArray, List.getElem_cons_succ, List.getElem_cons_zero]
          refine wpTail_take (i := 10) (v := ?_) rfl (by kernel_rfl) (by kernel_rfl) (by kernel_rfl) rfl (by kernel_rfl) (fun _ _ _ h => h) (Or.inl ⟨by rfl, ?_⟩) (by assumption) ?_
          rotate_left
          · (intro w hSw; (try dsimp only at hSw); go_simp; try with_reducible rfl)
          try simp only [Act.put, List.setIfInBounds_toArray, List.set_cons_zero, List.set_cons_succ, List.getElem_toArray, List.getElem_cons_succ, List.getElem_cons_zero]
          refine wpTail_done (by kernel_rfl) ?_ _
          clear hHeld hw16
          go_wp2_with fail
          go_ret
          exact ⟨by rw [show ixB s r = false from ixB_no (by omega) hv5.out hv9.out (by omega)] <;> rfl, (Xwr.trans (by repeat (first | (with_reducible assumption) | (with_reducible refine Ext.setCell ?_ (by first | (simp; done) | (simp; omega) | omega) _) | (with_reducible apply Ext.alloc) | (with_reducible apply Ext.drew) | (with_reducible apply Ext.drewN) | (with_reducible exact Ext.refl _))))⟩
        · replace hB17 := Lib.hid hB17
          have hin := hB17.out
          simp only [inB, decide_eq_true_eq] at hin
          replace hin : 0 ≤ v5 ∧ v5 < v9 := by omega
          refine hK.out _ _ ⟨e40, e80⟩ (fun hHeld => ?_)
          clear hK K
          try simp only [Act.put, List.setIfInBounds_toArray, List.set_cons_zero, List.set_cons_succ, List.getElem_toArray, List.getElem_cons_succ, List.getElem_cons_zero]
          refine wpTail_take (i := 10) (v := ?_) rfl (by kernel_rfl) (by kernel_rfl) (by kernel_rfl) rfl (by kernel_rfl) (fun _ _ _ h => h) (Or.inl ⟨by rfl, ?_⟩) (by assumption) ?_
          rotate_left
          · (intro w hSw; (try dsimp only at hSw); go_simp; try with_reducible rfl)
          try simp only [Act.put, List.setIfInBounds_toArray, List.set_cons_zero, List.set_cons_succ, List.getElem_toArray, List.getElem_cons_succ, List.getElem_cons_zero]
          refine wpTail_done (by kernel_rfl) ?_ _
          clear hHeld hw16
          go_wp2_with fail
          go_roundw
          case rel => exact ⟨k + 1, by omega, by go_num, Lib.hid (hok.out.succ hv5.out hv9.out (by omega) (by omega)), (Bwr.trans (by repeat (first | (with_reducible assumption) | (with_reducible refine Ext.setCell ?_ (by first | (simp; done) | (simp; omega) | omega) _) | (with_reducible apply Ext.alloc) | (with_reducible apply Ext.drew) | (with_reducible apply Ext.drewN) | (with_reducible exact Ext.refl _))))⟩
          case measure => simp [intOf]; omega
      · have hkI : ¬ (k : Int) < r.length := by omega
        go_wp2_with fail
        go_ret
        exact ⟨by rw [show ixB s r = true from ixB_ok (by have := hc1.out; omega) (by have := hok.out; rwa [show k = r.length by omega] at this)] <;> rfl, (Xwr.trans (by repeat (first | (with_reducible assumption) | (with_reducible refine Ext.setCell ?_ (by first | (simp; done) | (simp; omega) | omega) _) | (with_reducible apply Ext.alloc) | (with_reducible apply Ext.drew) | (with_reducible apply Ext.drewN) | (with_reducible exact Ext.refl _))))⟩
  · have hc1e : ((r.length : Int) == (s.length : Int)) = false := by simpa using hc1
    have hc1n : ((r.length : Int) != (s.length : Int)) = true := by simpa using hc1
    replace hc1 := Lib.hid hc1
    go_wp2_with fail
    go_ret
    exact ⟨by rw [show ixB s r = false from ixB_len (by have := hc1.out; omega)] <;> rfl, (by repeat (first | (with_reducible assumption) | (with_reducible refine Ext.setCell ?_ (by first | (simp; done) | (simp; omega) | omega) _) | (with_reducible apply Ext.alloc) | (with_reducible apply Ext.drew) | (with_reducible apply Ext.drewN) | (with_reducible exact Ext.refl _)))⟩


end Go.Proofs.Ytnjaidgifccgjaa

/- Walks: ranks, indices, rows, sums. -/
namespace Go.Proofs.Ytnjaidgifccgjaa
open Go.RowKit
set_option linter.unusedVariables false
set_option maxRecDepth 100000


def rankA (s r : List Int) : Int := if shapeB s && ixB s r then rankC s r else -1
def idxA (s : List Int) (k : Int) : List Int := if shapeB s && (decide (0 ≤ k) && decide (k < countL s)) then (unrL s k).1 else []
def okA (b : Int) (s t r : List Int) : Bool := viewB b s t && ixB s r
def atA (b : Int) (s t r : List Int) : Int := if okA b s t r then dotL b r t else 0
def rowB (b : Int) (s t : List Int) : Bool := viewB b s t && sameB (offsL b s t) (offsL b s (rowS s))
def sumA (mem : List Int) (b : Int) (s t : List Int) : Int := if holdB mem b s t then sumL (loadL mem b s t) else -1
theorem ix_len {s r : List Int} (h : ixB s r = true) : r.length = s.length := ((ixB_iff s r).1 h).len
theorem loadL_bd {mem : List Int} {b : Int} {s t : List Int} (h : holdB mem b s t = true) : ∀ x ∈ loadL mem b s t, 0 ≤ x ∧ x ≤ 255 := by
  intro x hx
  obtain ⟨h1, h2, h3⟩ := hold_in h
  unfold loadL takL at hx
  obtain ⟨i, hi, rfl⟩ := List.mem_map.1 hx
  obtain ⟨g1, g2⟩ := h3 i hi
  have hm : mem.getD i.toNat 0 ∈ mem := getD_mem (by omega)
  unfold memB at h1
  simp only [Bool.and_eq_true, List.all_eq_true, decide_eq_true_eq, inB] at h1
  exact h1.2 _ hm
theorem loadL_len {mem : List Int} {b : Int} {s t : List Int} (h : holdB mem b s t = true) : (loadL mem b s t).length ≤ 60 := by
  unfold loadL; rw [takL_len, offs_count]
  have h1 := (viewB_in (hold_in h).2.1).1
  have := shapeB_in h1
  omega

set_option maxHeartbeats 1600000 in
theorem implRankOf_c (s r : List Int) (v1 v2 : Value) (w : World) (l1 l2 : Nat) (h1 : Ints w l1 v1 s) (h2 : Ints w l2 v2 r) :
    Calls Try.prog 23 #[v1, v2] w (fun e w' => e = .returned (.int .i64 (rankA s r)) ∧ w = w') := by
  have n1 := h1.len
  have n2 := h2.len
  obtain ⟨p0, c0, rfl⟩ := h1.form
  obtain ⟨p1, c1, rfl⟩ := h2.form
  go_enter Try.func23, Try.ntmps23
  go_wp2_with fail
  refine (isShape_c s (.slice p0 s.length c0) _ _ (h1.ext (by repeat (first | (with_reducible assumption) | (with_reducible refine Ext.setCell ?_ (by first | (simp; done) | (simp; omega) | omega) _) | (with_reducible apply Ext.alloc) | (with_reducible apply Ext.drew) | (with_reducible apply Ext.drewN) | (with_reducible exact Ext.refl _))))).mono ?_
  rintro e w' ⟨rfl, rfl⟩
  cases hB1 : shapeB s
  · replace hB1 := Lib.hid hB1
    go_wp2_with fail
    go_ret
    exact ⟨by rw [show rankA s r = -1 by unfold rankA; rw [hB1.out]; rfl] <;> rfl, rfl⟩
  · replace hB1 := Lib.hid hB1
    go_wp2_with fail
    refine (isIndex_c s r (.slice p0 s.length c0) (.slice p1 r.length c1) _ _ _ (h1.ext (by repeat (first | (with_reducible assumption) | (with_reducible refine Ext.setCell ?_ (by first | (simp; done) | (simp; omega) | omega) _) | (with_reducible apply Ext.alloc) | (with_reducible apply Ext.drew) | (with_reducible apply Ext.drewN) | (with_reducible exact Ext.refl _)))) (h2.ext (by repeat (first | (with_reducible assumption) | (with_reducible refine Ext.setCell ?_ (by first | (simp; done) | (simp; omega) | omega) _) | (with_reducible apply Ext.alloc) | (with_reducible apply Ext.drew) | (with_reducible apply Ext.drewN) | (with_reducible exact Ext.refl _))))).mono ?_
    rintro e w' ⟨rfl, rfl⟩
    cases hB2 : ixB s r
    · replace hB2 := Lib.hid hB2
      go_wp2_with fail
      go_ret
      exact ⟨by rw [show rankA s r = -1 by unfold rankA; rw [hB1.out, hB2.out]; rfl] <;> rfl, rfl⟩
    · replace hB2 := Lib.hid hB2
      go_wp2_with fail
      go_loop [5, 19] (fun n i => ∃ (k : Nat), k ≤ r.length ∧ i = .int .i64 k ∧ n = .int .i64 (rankL (s.take k) r)) (fun _ i => r.length - (intOf i).toNat)
      case atStart => exact ⟨0, Nat.zero_le _, rfl, rfl⟩
      case round =>
        obtain ⟨k, hk, rfl, rfl⟩ := hrel
        by_cases hlt : k < r.length
        · have hkI : (k : Int) < r.length := by omega
          have hks : k < s.length := by have := ix_len hB2.out; omega
          have hs := rankL_take s r k hks hlt
          obtain ⟨bl3, ol4, rfl, e50⟩ := h2.at k (by omega)
          obtain ⟨v6, hv6⟩ : ∃ v, r.getD k 0 = v := ⟨_, rfl⟩
          rw [hv6] at e50
          replace hv6 := Lib.hid hv6
          have y_e5 : bl3 < w.heap.size := World.block_lt_of_cell? _ _ e50
          have z_e5 := y_e5
          rw [hv6.out] at hs
          obtain ⟨bl7, ol8, rfl, e90⟩ := h1.at k (by omega)
          obtain ⟨v10, hv10⟩ : ∃ v, s.getD k 0 = v := ⟨_, rfl⟩
          rw [hv10] at e90
          replace hv10 := Lib.hid hv10
          have y_e9 : bl7 < w.heap.size := World.block_lt_of_cell? _ _ e90
          have z_e9 := y_e9
          rw [hv10.out] at hs
          replace hs := Lib.hid hs
          go_wp2_with fail
          go_round
          case rel => exact ⟨k + 1, by omega, by go_num, by rw [hs.out]⟩
          case measure => simp [intOf]; omega
        · have hkI : ¬ (k : Int) < r.length := by omega
          go_wp2_with fail
          go_ret
          exact ⟨by rw [show rankA s r = rankL (s.take k) r by (unfold rankA; rw [hB1.out, hB2.out, List.take_of_length_le (by have := ix_len hB2.out; omega)]; exact (rankL_eq (ix_len hB2.out).symm (Small.of hB1.out) (ixB_small hB2.out (Small.of hB1.out))).symm)] <;> rfl, rfl⟩

set_option maxHeartbeats 1600000 in
theorem implIndexAt_c (s : List Int) (v1 : Value) (k : Int) (w : World) (l1 : Nat) (h1 : Ints w l1 v1 s) :
    Calls Try.prog 22 #[v1, .int .i64 k] w (PInts w (idxA s k)) := by
  obtain ⟨p0, c0, rfl⟩ := h1.form
  go_enter Try.func22, Try.ntmps22
  go_wp2_with fail
  refine (isShape_c s (.slice p0 s.length c0) _ _ (h1.ext (by repeat (first | (with_reducible assumption) | (with_reducible refine Ext.setCell ?_ (by first | (simp; done) | (simp; omega) | omega) _) | (with_reducible apply Ext.alloc) | (with_reducible apply Ext.drew) | (with_reducible apply Ext.drewN) | (with_reducible exact Ext.refl _))))).mono ?_
  rintro e w' ⟨rfl, rfl⟩
  cases hB1 : shapeB s
  · replace hB1 := Lib.hid hB1
    go_wp2_with fail
    go_ret
    rw [show idxA s k = [] by unfold idxA; rw [hB1.out]; rfl]
    exact PInts.no (by repeat (first | (with_reducible assumption) | (with_reducible refine Ext.setCell ?_ (by first | (simp; done) | (simp; omega) | omega) _) | (with_reducible apply Ext.alloc) | (with_reducible apply Ext.drew) | (with_reducible apply Ext.drewN) | (with_reducible exact Ext.refl _)))
  · replace hB1 := Lib.hid hB1
    by_cases hc2 : (k : Int) < (0 : Int)
    · go_wp2_with fail
      go_ret
      rw [show idxA s k = [] by unfold idxA; rw [hB1.out]; rw [if_neg (by simp only [Bool.true_and, Bool.and_eq_true, decide_eq_true_eq]; omega)]]
      exact PInts.no (by repeat (first | (with_reducible assumption) | (with_reducible refine Ext.setCell ?_ (by first | (simp; done) | (simp; omega) | omega) _) | (with_reducible apply Ext.alloc) | (with_reducible apply Ext.drew) | (with_reducible apply Ext.drewN) | (with_reducible exact Ext.refl _)))
    · go_wp2_with fail
      refine (countOf_c s (.slice p0 s.length c0) _ _ (h1.ext (by repeat (first | (with_reducible assumption) | (with_reducible refine Ext.setCell ?_ (by first | (simp; done) | (simp; omega) | omega) _) | (with_reducible apply Ext.alloc) | (with_reducible apply Ext.drew) | (with_reducible apply Ext.drewN) | (with_reducible exact Ext.refl _))))).mono ?_
      rintro e w' ⟨rfl, rfl⟩
      by_cases hc3 : (countL s : Int) ≤ (k : Int)
      · go_wp2_with fail
        go_ret
        rw [show idxA s k = [] by unfold idxA; rw [hB1.out]; rw [if_neg (by simp only [Bool.true_and, Bool.and_eq_true, decide_eq_true_eq]; omega)]]
        exact PInts.no (by repeat (first | (with_reducible assumption) | (with_reducible refine Ext.setCell ?_ (by first | (simp; done) | (simp; omega) | omega) _) | (with_reducible apply Ext.alloc) | (with_reducible apply Ext.drew) | (with_reducible apply Ext.drewN) | (with_reducible exact Ext.refl _)))
      · go_wp2_with fail
        refine (indexAt_c s (.slice p0 s.length c0) k _ _ (h1.ext (by repeat (first | (with_reducible assumption) | (with_reducible refine Ext.setCell ?_ (by first | (simp; done) | (simp; omega) | omega) _) | (with_reducible apply Ext.alloc) | (with_reducible apply Ext.drew) | (with_reducible apply Ext.drewN) | (with_reducible exact Ext.refl _)))) (by omega) (by have := (sh hB1.out).2.2; omega) ((sh hB1.out).2.1 (by omega))).mono ?_
        rintro e w1 ⟨fv4, rfl, i5, i5z, xw1⟩
        have Lw1 : Ext w w1 := Ext.trans (by repeat (first | (with_reducible assumption) | (with_reducible refine Ext.setCell ?_ (by first | (simp; done) | (simp; omega) | omega) _) | (with_reducible apply Ext.alloc) | (with_reducible apply Ext.drew) | (with_reducible apply Ext.drewN) | (with_reducible exact Ext.refl _))) xw1
        have Xw1 : Ext w w1 := Lw1
        have s_w1 : w.heap.size ≤ w1.heap.size := Xw1.size
        clear xw1
        obtain ⟨afv4, cfv4, rfl⟩ := i5.form
        go_wp2_with fail
        go_ret
        rw [show idxA s k = (unrL s k).1 by unfold idxA; rw [hB1.out]; rw [if_pos (by simp only [Bool.true_and, Bool.and_eq_true, decide_eq_true_eq]; omega)]]
        exact ⟨_, rfl, i5.lower (by omega), i5z.lower (by omega), (Xw1.trans (by repeat (first | (with_reducible assumption) | (with_reducible refine Ext.setCell ?_ (by first | (simp; done) | (simp; omega) | omega) _) | (with_reducible apply Ext.alloc) | (with_reducible apply Ext.drew) | (with_reducible apply Ext.drewN) | (with_reducible exact Ext.refl _))))⟩

set_option maxHeartbeats 1600000 in
theorem implOffsetAt_c (b1 : Int) (u1 v1 : Value) (s1 t1 : List Int) (v3 : Value) (r : List Int) (w : World) (l1 m1 : Nat) (h1 : Ints w l1 u1 s1) (k1 : Ints w m1 v1 t1) (l3 : Nat) (h3 : Ints w l3 v3 r) :
    Calls Try.prog 31 #[.agg #[.int .i64 b1, u1, v1], v3] w (fun e w' => e = .returned (.tuple #[.int .i64 (atA b1 s1 t1 r), .bool (okA b1 s1 t1 r)]) ∧ Ext w w') := by
  obtain ⟨p0, c0, rfl⟩ := h1.form
  obtain ⟨p1, c1, rfl⟩ := k1.form
  obtain ⟨p2, c2, rfl⟩ := h3.form
  go_enter Try.func31, Try.ntmps31
  go_wp2_with fail
  refine (isView_c b1 (.slice p0 s1.length c0) (.slice p1 t1.length c1) s1 t1 _ _ _ (h1.ext (by repeat (first | (with_reducible assumption) | (with_reducible refine Ext.setCell ?_ (by first | (simp; done) | (simp; omega) | omega) _) | (with_reducible apply Ext.alloc) | (with_reducible apply Ext.drew) | (with_reducible apply Ext.drewN) | (with_reducible exact Ext.refl _)))) (k1.ext (by repeat (first | (with_reducible assumption) | (with_reducible refine Ext.setCell ?_ (by first | (simp; done) | (simp; omega) | omega) _) | (with_reducible apply Ext.alloc) | (with_reducible apply Ext.drew) | (with_reducible apply Ext.drewN) | (with_reducible exact Ext.refl _))))).mono ?_
  rintro e w1 ⟨rfl, xw1⟩
  have Lw1 : Ext w w1 := Ext.trans (by repeat (first | (with_reducible assumption) | (with_reducible refine Ext.setCell ?_ (by first | (simp; done) | (simp; omega) | omega) _) | (with_reducible apply Ext.alloc) | (with_reducible apply Ext.drew) | (with_reducible apply Ext.drewN) | (with_reducible exact Ext.refl _))) xw1
  have Xw1 : Ext w w1 := Lw1
  have b10 : w1.cell? ⟨w.heap.size, 0, none⟩ = some (.int .i64 b1) := xw1.cell (by first | (simp; done) | ((repeat rw [World.cell?_alloc_lt _ _ _ (by simp <;> omega)]); simp; done) | (go_simp; done))
  have b11 : w1.cell? ⟨w.heap.size, 1, none⟩ = some (.slice p0 s1.length c0) := xw1.cell (by first | (simp; done) | ((repeat rw [World.cell?_alloc_lt _ _ _ (by simp <;> omega)]); simp; done) | (go_simp; done))
  have b12 : w1.cell? ⟨w.heap.size, 2, none⟩ = some (.slice p1 t1.length c1) := xw1.cell (by first | (simp; done) | ((repeat rw [World.cell?_alloc_lt _ _ _ (by simp <;> omega)]); simp; done) | (go_simp; done))
  have z_b1 : w.heap.size < w1.heap.size := World.block_lt_of_cell? _ _ b10
  have s_w1 : w.heap.size ≤ w1.heap.size := Xw1.size
  clear xw1
  cases hB2 : viewB b1 s1 t1
  · replace hB2 := Lib.hid hB2
    go_wp2_with fail
    go_ret2
    exact ⟨by rw [show okA b1 s1 t1 r = false by unfold okA; rw [hB2.out] <;> rfl, show atA b1 s1 t1 r = 0 by unfold atA okA; rw [hB2.out] <;> rfl] <;> rfl, (Xw1.trans (by repeat (first | (with_reducible assumption) | (with_reducible refine Ext.setCell ?_ (by first | (simp; done) | (simp; omega) | omega) _) | (with_reducible apply Ext.alloc) | (with_reducible apply Ext.drew) | (with_reducible apply Ext.drewN) | (with_reducible exact Ext.refl _))))⟩
  · replace hB2 := Lib.hid hB2
    go_wp2_with fail
    refine (isIndex_c s1 r (.slice p0 s1.length c0) (.slice p2 r.length c2) _ _ _ (h1.ext (Xw1.trans (by repeat (first | (with_reducible assumption) | (with_reducible refine Ext.setCell ?_ (by first | (simp; done) | (simp; omega) | omega) _) | (with_reducible apply Ext.alloc) | (with_reducible apply Ext.drew) | (with_reducible apply Ext.drewN) | (with_reducible exact Ext.refl _))))) (h3.ext (Xw1.trans (by repeat (first | (with_reducible assumption) | (with_reducible refine Ext.setCell ?_ (by first | (simp; done) | (simp; omega) | omega) _) | (with_reducible apply Ext.alloc) | (with_reducible apply Ext.drew) | (with_reducible apply Ext.drewN) | (with_reducible exact Ext.refl _)))))).mono ?_
    rintro e w' ⟨rfl, rfl⟩
    cases hB3 : ixB s1 r
    · replace hB3 := Lib.hid hB3
      go_wp2_with fail
      go_ret2
      exact ⟨by rw [show okA b1 s1 t1 r = false by unfold okA; rw [hB2.out, hB3.out] <;> rfl, show atA b1 s1 t1 r = 0 by unfold atA okA; rw [hB2.out, hB3.out] <;> rfl] <;> rfl, (Xw1.trans (by repeat (first | (with_reducible assumption) | (with_reducible refine Ext.setCell ?_ (by first | (simp; done) | (simp; omega) | omega) _) | (with_reducible apply Ext.alloc) | (with_reducible apply Ext.drew) | (with_reducible apply Ext.drewN) | (with_reducible exact Ext.refl _))))⟩
    · replace hB3 := Lib.hid hB3
      go_wp2_with fail
      refine (offsetAt_c b1 (.slice p0 s1.length c0) (.slice p1 t1.length c1) (.slice p2 r.length c2) t1 r _ _ _ (k1.ext (Xw1.trans (by repeat (first | (with_reducible assumption) | (with_reducible refine Ext.setCell ?_ (by first | (simp; done) | (simp; omega) | omega) _) | (with_reducible apply Ext.alloc) | (with_reducible apply Ext.drew) | (with_reducible apply Ext.drewN) | (with_reducible exact Ext.refl _))))) (h3.ext (Xw1.trans (by repeat (first | (with_reducible assumption) | (with_reducible refine Ext.setCell ?_ (by first | (simp; done) | (simp; omega) | omega) _) | (with_reducible apply Ext.alloc) | (with_reducible apply Ext.drew) | (with_reducible apply Ext.drewN) | (with_reducible exact Ext.refl _))))) (by have h7 := ix_len hB3.out; have h8 := (vw hB2.out).1; omega)).mono ?_
      rintro e w2 ⟨rfl, xw2⟩
      have Lw2 : Ext w1 w2 := Ext.trans (by repeat (first | (with_reducible assumption) | (with_reducible refine Ext.setCell ?_ (by first | (simp; done) | (simp; omega) | omega) _) | (with_reducible apply Ext.alloc) | (with_reducible apply Ext.drew) | (with_reducible apply Ext.drewN) | (with_reducible exact Ext.refl _))) xw2
      have Xw2 : Ext w w2 := Xw1.trans Lw2
      replace b10 := Lw2.cell b10
      replace b11 := Lw2.cell b11
      replace b12 := Lw2.cell b12
      have z_b1 : w.heap.size < w2.heap.size := World.block_lt_of_cell? _ _ b10
      have s_w2 : w.heap.size ≤ w2.heap.size := Xw2.size
      clear xw2
      go_wp2_with fail
      go_ret2
      exact ⟨by rw [show okA b1 s1 t1 r = true by unfold okA; rw [hB2.out, hB3.out] <;> rfl, show atA b1 s1 t1 r = dotL b1 r t1 by unfold atA okA; rw [hB2.out, hB3.out] <;> rfl] <;> rfl, (Xw2.trans (by repeat (first | (with_reducible assumption) | (with_reducible refine Ext.setCell ?_ (by first | (simp; done) | (simp; omega) | omega) _) | (with_reducible apply Ext.alloc) | (with_reducible apply Ext.drew) | (with_reducible apply Ext.drewN) | (with_reducible exact Ext.refl _))))⟩

set_option maxHeartbeats 1600000 in
theorem specOffsetAt_c (b1 : Int) (u1 v1 : Value) (s1 t1 : List Int) (v3 : Value) (r : List Int) (w : World) (l1 m1 : Nat) (h1 : Ints w l1 u1 s1) (k1 : Ints w m1 v1 t1) (l3 : Nat) (h3 : Ints w l3 v3 r) :
    Calls Try.prog 32 #[.agg #[.int .i64 b1, u1, v1], v3] w (fun e w' => e = .returned (.tuple #[.int .i64 (atA b1 s1 t1 r), .bool (okA b1 s1 t1 r)]) ∧ Ext w w') := by
  obtain ⟨p0, c0, rfl⟩ := h1.form
  obtain ⟨p1, c1, rfl⟩ := k1.form
  obtain ⟨p2, c2, rfl⟩ := h3.form
  go_enter Try.func32, Try.ntmps32
  go_wp2_with fail
  refine (validView_c b1 (.slice p0 s1.length c0) (.slice p1 t1.length c1) s1 t1 _ _ _ (h1.ext (by repeat (first | (with_reducible assumption) | (with_reducible refine Ext.setCell ?_ (by first | (simp; done) | (simp; omega) | omega) _) | (with_reducible apply Ext.alloc) | (with_reducible apply Ext.drew) | (with_reducible apply Ext.drewN) | (with_reducible exact Ext.refl _)))) (k1.ext (by repeat (first | (with_reducible assumption) | (with_reducible refine Ext.setCell ?_ (by first | (simp; done) | (simp; omega) | omega) _) | (with_reducible apply Ext.alloc) | (with_reducible apply Ext.drew) | (with_reducible apply Ext.drewN) | (with_reducible exact Ext.refl _))))).mono ?_
  rintro e w1 ⟨rfl, xw1⟩
  have Lw1 : Ext w w1 := Ext.trans (by repeat (first | (with_reducible assumption) | (with_reducible refine Ext.setCell ?_ (by first | (simp; done) | (simp; omega) | omega) _) | (with_reducible apply Ext.alloc) | (with_reducible apply Ext.drew) | (with_reducible apply Ext.drewN) | (with_reducible exact Ext.refl _))) xw1
  have Xw1 : Ext w w1 := Lw1
  have b10 : w1.cell? ⟨w.heap.size, 0, none⟩ = some (.int .i64 b1) := xw1.cell (by first | (simp; done) | ((repeat rw [World.cell?_alloc_lt _ _ _ (by simp <;> omega)]); simp; done) | (go_simp; done))
  have b11 : w1.cell? ⟨w.heap.size, 1, none⟩ = some (.slice p0 s1.length c0) := xw1.cell (by first | (simp; done) | ((repeat rw [World.cell?_alloc_lt _ _ _ (by simp <;> omega)]); simp; done) | (go_simp; done))
  have b12 : w1.cell? ⟨w.heap.size, 2, none⟩ = some (.slice p1 t1.length c1) := xw1.cell (by first | (simp; done) | ((repeat rw [World.cell?_alloc_lt _ _ _ (by simp <;> omega)]); simp; done) | (go_simp; done))
  have z_b1 : w.heap.size < w1.heap.size := World.block_lt_of_cell? _ _ b10
  have s_w1 : w.heap.size ≤ w1.heap.size := Xw1.size
  clear xw1
  cases hB2 : viewB b1 s1 t1
  · replace hB2 := Lib.hid hB2
    go_wp2_with fail
    go_ret2
    exact ⟨by rw [show okA b1 s1 t1 r = false by unfold okA; rw [hB2.out] <;> rfl, show atA b1 s1 t1 r = 0 by unfold atA okA; rw [hB2.out] <;> rfl] <;> rfl, (Xw1.trans (by repeat (first | (with_reducible assumption) | (with_reducible refine Ext.setCell ?_ (by first | (simp; done) | (simp; omega) | omega) _) | (with_reducible apply Ext.alloc) | (with_reducible apply Ext.drew) | (with_reducible apply Ext.drewN) | (with_reducible exact Ext.refl _))))⟩
  · replace hB2 := Lib.hid hB2
    go_wp2_with fail
    refine (validIndex_c s1 r (.slice p0 s1.length c0) (.slice p2 r.length c2) _ _ _ (h1.ext (Xw1.trans (by repeat (first | (with_reducible assumption) | (with_reducible refine Ext.setCell ?_ (by first | (simp; done) | (simp; omega) | omega) _) | (with_reducible apply Ext.alloc) | (with_reducible apply Ext.drew) | (with_reducible apply Ext.drewN) | (with_reducible exact Ext.refl _))))) (h3.ext (Xw1.trans (by repeat (first | (with_reducible assumption) | (with_reducible refine Ext.setCell ?_ (by first | (simp; done) | (simp; omega) | omega) _) | (with_reducible apply Ext.alloc) | (with_reducible apply Ext.drew) | (with_reducible apply Ext.drewN) | (with_reducible exact Ext.refl _))))) (vw hB2.out).2.2.2).mono ?_
    rintro e w2 ⟨rfl, xw2⟩
    have Lw2 : Ext w1 w2 := Ext.trans (by repeat (first | (with_reducible assumption) | (with_reducible refine Ext.setCell ?_ (by first | (simp; done) | (simp; omega) | omega) _) | (with_reducible apply Ext.alloc) | (with_reducible apply Ext.drew) | (with_reducible apply Ext.drewN) | (with_reducible exact Ext.refl _))) xw2
    have Xw2 : Ext w w2 := Xw1.trans Lw2
    replace b10 := Lw2.cell b10
    replace b11 := Lw2.cell b11
    replace b12 := Lw2.cell b12
    have z_b1 : w.heap.size < w2.heap.size := World.block_lt_of_cell? _ _ b10
    have s_w2 : w.heap.size ≤ w2.heap.size := Xw2.size
    clear xw2
    cases hB3 : ixB s1 r
    · replace hB3 := Lib.hid hB3
      go_wp2_with fail
      go_ret2
      exact ⟨by rw [show okA b1 s1 t1 r = false by unfold okA; rw [hB2.out, hB3.out] <;> rfl, show atA b1 s1 t1 r = 0 by unfold atA okA; rw [hB2.out, hB3.out] <;> rfl] <;> rfl, (Xw2.trans (by repeat (first | (with_reducible assumption) | (with_reducible refine Ext.setCell ?_ (by first | (simp; done) | (simp; omega) | omega) _) | (with_reducible apply Ext.alloc) | (with_reducible apply Ext.drew) | (with_reducible apply Ext.drewN) | (with_reducible exact Ext.refl _))))⟩
    · replace hB3 := Lib.hid hB3
      go_wp2_with fail
      refine (offset_c b1 (.slice p0 s1.length c0) (.slice p1 t1.length c1) (.slice p2 r.length c2) t1 r _ _ _ (k1.ext (Xw2.trans (by repeat (first | (with_reducible assumption) | (with_reducible refine Ext.setCell ?_ (by first | (simp; done) | (simp; omega) | omega) _) | (with_reducible apply Ext.alloc) | (with_reducible apply Ext.drew) | (with_reducible apply Ext.drewN) | (with_reducible exact Ext.refl _))))) (h3.ext (Xw2.trans (by repeat (first | (with_reducible assumption) | (with_reducible refine Ext.setCell ?_ (by first | (simp; done) | (simp; omega) | omega) _) | (with_reducible apply Ext.alloc) | (with_reducible apply Ext.drew) | (with_reducible apply Ext.drewN) | (with_reducible exact Ext.refl _))))) (by have h7 := ix_len hB3.out; have h8 := (vw hB2.out).1; omega)).mono ?_
      rintro e w3 ⟨rfl, xw3⟩
      have Lw3 : Ext w2 w3 := Ext.trans (by repeat (first | (with_reducible assumption) | (with_reducible refine Ext.setCell ?_ (by first | (simp; done) | (simp; omega) | omega) _) | (with_reducible apply Ext.alloc) | (with_reducible apply Ext.drew) | (with_reducible apply Ext.drewN) | (with_reducible exact Ext.refl _))) xw3
      have Xw3 : Ext w w3 := Xw2.trans Lw3
      replace b10 := Lw3.cell b10
      replace b11 := Lw3.cell b11
      replace b12 := Lw3.cell b12
      have z_b1 : w.heap.size < w3.heap.size := World.block_lt_of_cell? _ _ b10
      have s_w3 : w.heap.size ≤ w3.heap.size := Xw3.size
      clear xw3
      go_wp2_with fail
      go_ret2
      exact ⟨by rw [show okA b1 s1 t1 r = true by unfold okA; rw [hB2.out, hB3.out] <;> rfl, show atA b1 s1 t1 r = dotL b1 r t1 by unfold atA okA; rw [hB2.out, hB3.out] <;> rfl] <;> rfl, (Xw3.trans (by repeat (first | (with_reducible assumption) | (with_reducible refine Ext.setCell ?_ (by first | (simp; done) | (simp; omega) | omega) _) | (with_reducible apply Ext.alloc) | (with_reducible apply Ext.drew) | (with_reducible apply Ext.drewN) | (with_reducible exact Ext.refl _))))⟩

set_option maxHeartbeats 1600000 in
theorem implIsRow_c (b1 : Int) (u1 v1 : Value) (s1 t1 : List Int) (w : World) (l1 m1 : Nat) (h1 : Ints w l1 u1 s1) (k1 : Ints w m1 v1 t1) :
    Calls Try.prog 25 #[.agg #[.int .i64 b1, u1, v1]] w (fun e w' => e = .returned (.bool (rowB b1 s1 t1)) ∧ Ext w w') := by
  obtain ⟨p0, c0, rfl⟩ := h1.form
  obtain ⟨p1, c1, rfl⟩ := k1.form
  go_enter Try.func25, Try.ntmps25
  go_wp2_with fail
  refine (isView_c b1 (.slice p0 s1.length c0) (.slice p1 t1.length c1) s1 t1 _ _ _ (h1.ext (by repeat (first | (with_reducible assumption) | (with_reducible refine Ext.setCell ?_ (by first | (simp; done) | (simp; omega) | omega) _) | (with_reducible apply Ext.alloc) | (with_reducible apply Ext.drew) | (with_reducible apply Ext.drewN) | (with_reducible exact Ext.refl _)))) (k1.ext (by repeat (first | (with_reducible assumption) | (with_reducible refine Ext.setCell ?_ (by first | (simp; done) | (simp; omega) | omega) _) | (with_reducible apply Ext.alloc) | (with_reducible apply Ext.drew) | (with_reducible apply Ext.drewN) | (with_reducible exact Ext.refl _))))).mono ?_
  rintro e w1 ⟨rfl, xw1⟩
  have Lw1 : Ext w w1 := Ext.trans (by repeat (first | (with_reducible assumption) | (with_reducible refine Ext.setCell ?_ (by first | (simp; done) | (simp; omega) | omega) _) | (with_reducible apply Ext.alloc) | (with_reducible apply Ext.drew) | (with_reducible apply Ext.drewN) | (with_reducible exact Ext.refl _))) xw1
  have Xw1 : Ext w w1 := Lw1
  have b10 : w1.cell? ⟨w.heap.size, 0, none⟩ = some (.int .i64 b1) := xw1.cell (by first | (simp; done) | ((repeat rw [World.cell?_alloc_lt _ _ _ (by simp <;> omega)]); simp; done) | (go_simp; done))
  have b11 : w1.cell? ⟨w.heap.size, 1, none⟩ = some (.slice p0 s1.length c0) := xw1.cell (by first | (simp; done) | ((repeat rw [World.cell?_alloc_lt _ _ _ (by simp <;> omega)]); simp; done) | (go_simp; done))
  have b12 : w1.cell? ⟨w.heap.size, 2, none⟩ = some (.slice p1 t1.length c1) := xw1.cell (by first | (simp; done) | ((repeat rw [World.cell?_alloc_lt _ _ _ (by simp <;> omega)]); simp; done) | (go_simp; done))
  have z_b1 : w.heap.size < w1.heap.size := World.block_lt_of_cell? _ _ b10
  have s_w1 : w.heap.size ≤ w1.heap.size := Xw1.size
  clear xw1
  cases hB2 : viewB b1 s1 t1
  · replace hB2 := Lib.hid hB2
    go_wp2_with fail
    go_ret
    exact ⟨by rw [show rowB b1 s1 t1 = false by unfold rowB; rw [hB2.out] <;> rfl] <;> rfl, (Xw1.trans (by repeat (first | (with_reducible assumption) | (with_reducible refine Ext.setCell ?_ (by first | (simp; done) | (simp; omega) | omega) _) | (with_reducible apply Ext.alloc) | (with_reducible apply Ext.drew) | (with_reducible apply Ext.drewN) | (with_reducible exact Ext.refl _))))⟩
  · replace hB2 := Lib.hid hB2
    go_wp2_with fail
    refine wp_region_tail (S := fun w' => w'.cell? ⟨w.heap.size, 0, none⟩ = some (.int .i64 b1) ∧ w'.cell? ⟨w.heap.size, 1, none⟩ = some (.slice p0 s1.length c0) ∧ w'.cell? ⟨w.heap.size, 2, none⟩ = some (.slice p1 t1.length c1)) (fun i => decide (13 ≤ i)) (by kernel_rfl) ⟨b10, b11, b12⟩ (fun hHeld => ?_)
    refine wpTail_take (i := 0) (v := ?_) rfl (by kernel_rfl) (by kernel_rfl) (by kernel_rfl) rfl (by kernel_rfl) (fun _ _ _ h => h) (Or.inl ⟨by rfl, ?_⟩) (by assumption) ?_
    rotate_left
    · (intro w hSw; (try dsimp only at hSw); go_simp; try with_reducible rfl)
    try simp only [Act.put, List.setIfInBounds_toArray, List.set_cons_zero, List.set_cons_succ, List.getElem_toArray, List.getElem_cons_succ, List.getElem_cons_zero]
    refine wpTail_take (i := 2) (v := ?_) rfl (by kernel_rfl) (by kernel_rfl) (by kernel_rfl) rfl (by kernel_rfl) (fun _ _ _ h => h) (Or.inl ⟨by rfl, ?_⟩) (by assumption) ?_
    rotate_left
    · (intro w hSw; (try dsimp only at hSw); go_simp; try with_reducible rfl)
    try simp only [Act.put, List.setIfInBounds_toArray, List.set_cons_zero, List.set_cons_succ, List.getElem_toArray, List.getElem_cons_succ, List.getElem_cons_zero]
    refine wpTail_take (i := 3) (v := ?_) rfl (by kernel_rfl) (by kernel_rfl) (by kernel_rfl) rfl (by kernel_rfl) (fun _ _ _ h => h) (Or.inl ⟨by rfl, ?_⟩) (by assumption) ?_
    rotate_left
    · (intro w hSw; (try dsimp only at hSw); go_simp; try with_reducible rfl)
    try simp only [Act.put, List.setIfInBounds_toArray, List.set_cons_zero, List.set_cons_succ, List.getElem_toArray, List.getElem_cons_succ, List.getElem_cons_zero]
    refine wpTail_take (i := 4) (v := ?_) rfl (by kernel_rfl) (by kernel_rfl) (by kernel_rfl) rfl (by kernel_rfl) (fun _ _ _ h => h) (Or.inl ⟨by rfl, ?_⟩) (by assumption) ?_
    rotate_left
    · (intro w hSw; (try dsimp only at hSw); go_simp; try with_reducible rfl)
    try simp only [Act.put, List.setIfInBounds_toArray, List.set_cons_zero, List.set_cons_succ, List.getElem_toArray, List.getElem_cons_succ, List.getElem_cons_zero]
    refine wpTail_take (i := 5) (v := ?_) rfl (by kernel_rfl) (by kernel_rfl) (by kernel_rfl) rfl (by kernel_rfl) (fun _ _ _ h => h) (Or.inl ⟨by rfl, ?_⟩) (by assumption) ?_
    rotate_left
    · (intro w hSw; (try dsimp only at hSw); go_simp; try with_reducible rfl)
    try simp only [Act.put, List.setIfInBounds_toArray, List.set_cons_zero, List.set_cons_succ, List.getElem_toArray, List.getElem_cons_succ, List.getElem_cons_zero]
    refine wpTail_take (i := 6) (v := ?_) rfl (by kernel_rfl) (by kernel_rfl) (by kernel_rfl) rfl (by kernel_rfl) (fun _ _ _ h => h) (Or.inl ⟨by rfl, ?_⟩) (by assumption) ?_
    rotate_left
    · (intro w hSw; (try dsimp only at hSw); go_simp; try with_reducible rfl)
    try simp only [Act.put, List.setIfInBounds_toArray, List.set_cons_zero, List.set_cons_succ, List.getElem_toArray, List.getElem_cons_succ, List.getElem_cons_zero]
    refine wpTail_take (i := 7) (v := ?_) rfl (by kernel_rfl) (by kernel_rfl) (by kernel_rfl) rfl (by kernel_rfl) (fun _ _ _ h => h) (Or.inl ⟨by rfl, ?_⟩) (by assumption) ?_
    rotate_left
    · (intro w hSw; (try dsimp only at hSw); go_simp; try with_reducible rfl)
    try simp only [Act.put, List.setIfInBounds_toArray, List.set_cons_zero, List.set_cons_succ, List.getElem_toArray, List.getElem_cons_succ, List.getElem_cons_zero]
    refine wpTail_one (i := 1) (by kernel_rfl) rfl rfl (fun K hK => ?_)
    try simp only [Act.put, List.setIfInBounds_toArray, List.set_cons_zero, List.set_cons_succ, List.getElem_toArray, List.getElem_cons_succ, List.getElem_cons_zero]
    go_simp
    refine (offsetsOf_c b1 (.slice p0 s1.length c0) (.slice p1 t1.length c1) s1 t1 _ _ _ (h1.ext (Xw1.trans (by repeat (first | (with_reducible assumption) | (with_reducible refine Ext.setCell ?_ (by first | (simp; done) | (simp; omega) | omega) _) | (with_reducible apply Ext.alloc) | (with_reducible apply Ext.drew) | (with_reducible apply Ext.drewN) | (with_reducible exact Ext.refl _))))) (k1.ext (Xw1.trans (by repeat (first | (with_reducible assumption) | (with_reducible refine Ext.setCell ?_ (by first | (simp; done) | (simp; omega) | omega) _) | (with_reducible apply Ext.alloc) | (with_reducible apply Ext.drew) | (with_reducible apply Ext.drewN) | (with_reducible exact Ext.refl _))))) (by first | omega | exact (vw hB2.out).1 | exact (vw hB2.out).2.1 | exact (vw hB2.out).2.2.1 | exact (vw hB2.out).2.2.2) (by first | omega | exact (vw hB2.out).1 | exact (vw hB2.out).2.1 | exact (vw hB2.out).2.2.1 | exact (vw hB2.out).2.2.2) (by first | omega | exact (vw hB2.out).1 | exact (vw hB2.out).2.1 | exact (vw hB2.out).2.2.1 | exact (vw hB2.out).2.2.2)).mono ?_
    rintro e w2 ⟨fv3, rfl, i4, -, xw2⟩
    have Lw2 : Ext w1 w2 := Ext.trans (by repeat (first | (with_reducible assumption) | (with_reducible refine Ext.setCell ?_ (by first | (simp; done) | (simp; omega) | omega) _) | (with_reducible apply Ext.alloc) | (with_reducible apply Ext.drew) | (with_reducible apply Ext.drewN) | (with_reducible exact Ext.refl _))) xw2
    have Xw2 : Ext w w2 := Xw1.trans Lw2
    replace b10 := Lw2.cell b10
    replace b11 := Lw2.cell b11
    replace b12 := Lw2.cell b12
    have z_b1 : w.heap.size < w2.heap.size := World.block_lt_of_cell? _ _ b10
    have s_w2 : w.heap.size ≤ w2.heap.size := Xw2.size
    clear xw2
    obtain ⟨afv3, cfv3, rfl⟩ := i4.form
    refine hK.out _ _ ⟨b10, b11, b12⟩ (fun hHeld => ?_)
    clear hK K
    try simp only [Act.put, List.setIfInBounds_toArray, List.set_cons_zero, List.set_cons_succ, List.getElem_toArray, List.getElem_cons_succ, List.getElem_cons_zero]
    refine wpTail_one (i := 8) (by kernel_rfl) rfl rfl (fun K hK => ?_)
    try simp only [Act.put, List.setIfInBounds_toArray, List.set_cons_zero, List.set_cons_succ, List.getElem_toArray, List.getElem_cons_succ, List.getElem_cons_zero]
    go_simp
    refine (implRowStrides_c s1 (.slice p0 s1.length c0) _ _ (h1.ext (Xw2.trans (by repeat (first | (with_reducible assumption) | (with_reducible refine Ext.setCell ?_ (by first | (simp; done) | (simp; omega) | omega) _) | (with_reducible apply Ext.alloc) | (with_reducible apply Ext.drew) | (with_reducible apply Ext.drewN) | (with_reducible exact Ext.refl _))))) (by first | omega | exact (vw hB2.out).1 | exact (vw hB2.out).2.1 | exact (vw hB2.out).2.2.1 | exact (vw hB2.out).2.2.2)).mono ?_
    rintro e w3 ⟨fv5, rfl, i6, -, xw3⟩
    have Lw3 : Ext w2 w3 := Ext.trans (by repeat (first | (with_reducible assumption) | (with_reducible refine Ext.setCell ?_ (by first | (simp; done) | (simp; omega) | omega) _) | (with_reducible apply Ext.alloc) | (with_reducible apply Ext.drew) | (with_reducible apply Ext.drewN) | (with_reducible exact Ext.refl _))) xw3
    have Xw3 : Ext w w3 := Xw2.trans Lw3
    replace b10 := Lw3.cell b10
    replace b11 := Lw3.cell b11
    replace b12 := Lw3.cell b12
    have z_b1 : w.heap.size < w3.heap.size := World.block_lt_of_cell? _ _ b10
    replace i4 := i4.ext Lw3
    have s_w3 : w.heap.size ≤ w3.heap.size := Xw3.size
    clear xw3
    obtain ⟨afv5, cfv5, rfl⟩ := i6.form
    refine hK.out _ _ ⟨b10, b11, b12⟩ (fun hHeld => ?_)
    clear hK K
    try simp only [Act.put, List.setIfInBounds_toArray, List.set_cons_zero, List.set_cons_succ, List.getElem_toArray, List.getElem_cons_succ, List.getElem_cons_zero]
    refine wpTail_take (i := 9) (v := ?_) rfl (by kernel_rfl) (by kernel_rfl) (by kernel_rfl) rfl (by kernel_rfl) (fun _ _ _ h => h) (Or.inl ⟨by rfl, ?_⟩) (by assumption) ?_
    rotate_left
    · (intro w hSw; (try dsimp only at hSw); go_simp; try with_reducible rfl)
    try simp only [Act.put, List.setIfInBounds_toArray, List.set_cons_zero, List.set_cons_succ, List.getElem_toArray, List.getElem_cons_succ, List.getElem_cons_zero]
    refine wpTail_one (i := 10) (by kernel_rfl) rfl rfl (fun K hK => ?_)
    try simp only [Act.put, List.setIfInBounds_toArray, List.set_cons_zero, List.set_cons_succ, List.getElem_toArray, List.getElem_cons_succ, List.getElem_cons_zero]
    go_simp
    refine (offsetsOf_c b1 (.slice p0 s1.length c0) (.slice afv5 ((rowS s1).length) cfv5) s1 (rowS s1) _ _ _ (h1.ext (Xw3.trans (by repeat (first | (with_reducible assumption) | (with_reducible refine Ext.setCell ?_ (by first | (simp; done) | (simp; omega) | omega) _) | (with_reducible apply Ext.alloc) | (with_reducible apply Ext.drew) | (with_reducible apply Ext.drewN) | (with_reducible exact Ext.refl _))))) (i6.ext (by repeat (first | (with_reducible assumption) | (with_reducible refine Ext.setCell ?_ (by first | (simp; done) | (simp; omega) | omega) _) | (with_reducible apply Ext.alloc) | (with_reducible apply Ext.drew) | (with_reducible apply Ext.drewN) | (with_reducible exact Ext.refl _)))) (by first | omega | exact (vw hB2.out).1 | exact (vw hB2.out).2.1 | exact (vw hB2.out).2.2.1 | exact (vw hB2.out).2.2.2 | (rw [rowS_len]; omega) | exact Nat.le_of_eq (rowS_len _).symm) (by first | omega | exact (vw hB2.out).1 | exact (vw hB2.out).2.1 | exact (vw hB2.out).2.2.1 | exact (vw hB2.out).2.2.2) (by first | omega | exact (vw hB2.out).1 | exact (vw hB2.out).2.1 | exact (vw hB2.out).2.2.1 | exact (vw hB2.out).2.2.2)).mono ?_
    rintro e w4 ⟨fv7, rfl, i8, -, xw4⟩
    have Lw4 : Ext w3 w4 := Ext.trans (by repeat (first | (with_reducible assumption) | (with_reducible refine Ext.setCell ?_ (by first | (simp; done) | (simp; omega) | omega) _) | (with_reducible apply Ext.alloc) | (with_reducible apply Ext.drew) | (with_reducible apply Ext.drewN) | (with_reducible exact Ext.refl _))) xw4
    have Xw4 : Ext w w4 := Xw3.trans Lw4
    replace b10 := Lw4.cell b10
    replace b11 := Lw4.cell b11
    replace b12 := Lw4.cell b12
    have z_b1 : w.heap.size < w4.heap.size := World.block_lt_of_cell? _ _ b10
    replace i4 := i4.ext Lw4
    replace i6 := i6.ext Lw4
    have s_w4 : w.heap.size ≤ w4.heap.size := Xw4.size
    clear xw4
    obtain ⟨afv7, cfv7, rfl⟩ := i8.form
    refine hK.out _ _ ⟨b10, b11, b12⟩ (fun hHeld => ?_)
    clear hK K
    try simp only [Act.put, List.setIfInBounds_toArray, List.set_cons_zero, List.set_cons_succ, List.getElem_toArray, List.getElem_cons_succ, List.getElem_cons_zero]
    refine wpTail_one (i := 11) (by kernel_rfl) rfl rfl (fun K hK => ?_)
    try simp only [Act.put, List.setIfInBounds_toArray, List.set_cons_zero, List.set_cons_succ, List.getElem_toArray, List.getElem_cons_succ, List.getElem_cons_zero]
    go_simp
    refine (equal_x (offsL b1 s1 t1) (offsL b1 s1 (rowS s1)) (.slice afv3 ((offsL b1 s1 t1).length) cfv3) (.slice afv7 ((offsL b1 s1 (rowS s1)).length) cfv7) _ _ _ (i4.ext (by repeat (first | (with_reducible assumption) | (with_reducible refine Ext.setCell ?_ (by first | (simp; done) | (simp; omega) | omega) _) | (with_reducible apply Ext.alloc) | (with_reducible apply Ext.drew) | (with_reducible apply Ext.drewN) | (with_reducible exact Ext.refl _)))) (i8.ext (by repeat (first | (with_reducible assumption) | (with_reducible refine Ext.setCell ?_ (by first | (simp; done) | (simp; omega) | omega) _) | (with_reducible apply Ext.alloc) | (with_reducible apply Ext.drew) | (with_reducible apply Ext.drewN) | (with_reducible exact Ext.refl _))))).mono ?_
    rintro e w5 ⟨rfl, xw5⟩
    have Lw5 : Ext w4 w5 := Ext.trans (by repeat (first | (with_reducible assumption) | (with_reducible refine Ext.setCell ?_ (by first | (simp; done) | (simp; omega) | omega) _) | (with_reducible apply Ext.alloc) | (with_reducible apply Ext.drew) | (with_reducible apply Ext.drewN) | (with_reducible exact Ext.refl _))) xw5
    have Xw5 : Ext w w5 := Xw4.trans Lw5
    replace b10 := Lw5.cell b10
    replace b11 := Lw5.cell b11
    replace b12 := Lw5.cell b12
    have z_b1 : w.heap.size < w5.heap.size := World.block_lt_of_cell? _ _ b10
    replace i4 := i4.ext Lw5
    replace i6 := i6.ext Lw5
    replace i8 := i8.ext Lw5
    have s_w5 : w.heap.size ≤ w5.heap.size := Xw5.size
    clear xw5
    cases hB9 : sameB (offsL b1 s1 t1) (offsL b1 s1 (rowS s1))
    · replace hB9 := Lib.hid hB9
      refine hK.out _ _ ⟨b10, b11, b12⟩ (fun hHeld => ?_)
      clear hK K
      try simp only [Act.put, List.setIfInBounds_toArray, List.set_cons_zero, List.set_cons_succ, List.getElem_toArray, List.getElem_cons_succ, List.getElem_cons_zero]
      refine wpTail_take (i := 12) (v := ?_) rfl (by kernel_rfl) (by kernel_rfl) (by kernel_rfl) rfl (by kernel_rfl) (fun _ _ _ h => h) (Or.inl ⟨by rfl, ?_⟩) (by assumption) ?_
      rotate_left
      · (intro w hSw; (try dsimp only at hSw); go_simp; try with_reducible rfl)
      try simp only [Act.put, List.setIfInBounds_toArray, List.set_cons_zero, List.set_cons_succ, List.getElem_toArray, List.getElem_cons_succ, List.getElem_cons_zero]
      refine wpTail_done (by kernel_rfl) ?_ _
      clear hHeld 
      go_wp2_with fail
      go_ret
      exact ⟨by rw [show rowB b1 s1 t1 = false by unfold rowB; rw [hB2.out, hB9.out] <;> rfl] <;> rfl, (Xw5.trans (by repeat (first | (with_reducible assumption) | (with_reducible refine Ext.setCell ?_ (by first | (simp; done) | (simp; omega) | omega) _) | (with_reducible apply Ext.alloc) | (with_reducible apply Ext.drew) | (with_reducible apply Ext.drewN) | (with_reducible exact Ext.refl _))))⟩
    · replace hB9 := Lib.hid hB9
      refine hK.out _ _ ⟨b10, b11, b12⟩ (fun hHeld => ?_)
      clear hK K
      try simp only [Act.put, List.setIfInBounds_toArray, List.set_cons_zero, List.set_cons_succ, List.getElem_toArray, List.getElem_cons_succ, List.getElem_cons_zero]
      refine wpTail_take (i := 12) (v := ?_) rfl (by kernel_rfl) (by kernel_rfl) (by kernel_rfl) rfl (by kernel_rfl) (fun _ _ _ h => h) (Or.inl ⟨by rfl, ?_⟩) (by assumption) ?_
      rotate_left
      · (intro w hSw; (try dsimp only at hSw); go_simp; try with_reducible rfl)
      try simp only [Act.put, List.setIfInBounds_toArray, List.set_cons_zero, List.set_cons_succ, List.getElem_toArray, List.getElem_cons_succ, List.getElem_cons_zero]
      refine wpTail_done (by kernel_rfl) ?_ _
      clear hHeld 
      go_wp2_with fail
      go_ret
      exact ⟨by rw [show rowB b1 s1 t1 = true by unfold rowB; rw [hB2.out, hB9.out] <;> rfl] <;> rfl, (Xw5.trans (by repeat (first | (with_reducible assumption) | (with_reducible refine Ext.setCell ?_ (by first | (simp; done) | (simp; omega) | omega) _) | (with_reducible apply Ext.alloc) | (with_reducible apply Ext.drew) | (with_reducible apply Ext.drewN) | (with_reducible exact Ext.refl _))))⟩

set_option maxHeartbeats 1600000 in
theorem dense_c (b1 : Int) (u1 v1 : Value) (s1 t1 : List Int) (v3 : Value) (r : List Int) (w : World) (l1 m1 : Nat) (h1 : Ints w l1 u1 s1) (k1 : Ints w m1 v1 t1) (l3 : Nat) (h3 : Ints w l3 v3 r) (ha : viewB b1 s1 t1 = true) (hl : s1.length ≤ r.length) :
    Calls Try.prog 75 #[.agg #[.int .i64 b1, u1, v1], v3] w (fun e w' => e = .returned (.bool (sameB (offsL b1 s1 t1) (offsL b1 s1 r))) ∧ Ext w w') := by
  obtain ⟨p0, c0, rfl⟩ := h1.form
  obtain ⟨p1, c1, rfl⟩ := k1.form
  obtain ⟨p2, c2, rfl⟩ := h3.form
  replace ha := Lib.hid ha
  go_enter Try.func75, Try.ntmps75
  go_wp2_with fail
  have Lw1 : Ext w (w.alloc (.cells #[.int .i64 b1, .slice p0 s1.length c0, .slice p1 t1.length c1] 25)) := (by repeat (first | (with_reducible assumption) | (with_reducible refine Ext.setCell ?_ (by first | (simp; done) | (simp; omega) | omega) _) | (with_reducible apply Ext.alloc) | (with_reducible apply Ext.drew) | (with_reducible apply Ext.drewN) | (with_reducible exact Ext.refl _)))
  have Xw1 : Ext w (w.alloc (.cells #[.int .i64 b1, .slice p0 s1.length c0, .slice p1 t1.length c1] 25)) := Lw1
  have b10 : (w.alloc (.cells #[.int .i64 b1, .slice p0 s1.length c0, .slice p1 t1.length c1] 25)).cell? ⟨w.heap.size, 0, none⟩ = some (.int .i64 b1) := (by first | (simp; done) | ((repeat rw [World.cell?_alloc_lt _ _ _ (by simp <;> omega)]); simp; done) | (go_simp; done))
  have b11 : (w.alloc (.cells #[.int .i64 b1, .slice p0 s1.length c0, .slice p1 t1.length c1] 25)).cell? ⟨w.heap.size, 1, none⟩ = some (.slice p0 s1.length c0) := (by first | (simp; done) | ((repeat rw [World.cell?_alloc_lt _ _ _ (by simp <;> omega)]); simp; done) | (go_simp; done))
  have b12 : (w.alloc (.cells #[.int .i64 b1, .slice p0 s1.length c0, .slice p1 t1.length c1] 25)).cell? ⟨w.heap.size, 2, none⟩ = some (.slice p1 t1.length c1) := (by first | (simp; done) | ((repeat rw [World.cell?_alloc_lt _ _ _ (by simp <;> omega)]); simp; done) | (go_simp; done))
  have z_b1 : w.heap.size < (w.alloc (.cells #[.int .i64 b1, .slice p0 s1.length c0, .slice p1 t1.length c1] 25)).heap.size := World.block_lt_of_cell? _ _ b10
  have s_w1 : w.heap.size ≤ (w.alloc (.cells #[.int .i64 b1, .slice p0 s1.length c0, .slice p1 t1.length c1] 25)).heap.size := Xw1.size
  generalize w.alloc (.cells #[.int .i64 b1, .slice p0 s1.length c0, .slice p1 t1.length c1] 25) = w1 at *
  refine wp_region_tail (S := fun w' => w'.cell? ⟨w.heap.size, 0, none⟩ = some (.int .i64 b1) ∧ w'.cell? ⟨w.heap.size, 1, none⟩ = some (.slice p0 s1.length c0) ∧ w'.cell? ⟨w.heap.size, 2, none⟩ = some (.slice p1 t1.length c1)) (fun i => decide (11 ≤ i)) (by kernel_rfl) ⟨b10, b11, b12⟩ (fun hHeld => ?_)
  refine wpTail_take (i := 0) (v := ?_) rfl (by kernel_rfl) (by kernel_rfl) (by kernel_rfl) rfl (by kernel_rfl) (fun _ _ _ h => h) (Or.inl ⟨by rfl, ?_⟩) (by assumption) ?_
  rotate_left
  · (intro w hSw; (try dsimp only at hSw); go_simp; try with_reducible rfl)
  try simp only [Act.put, List.setIfInBounds_toArray, List.set_cons_zero, List.set_cons_succ, List.getElem_toArray, List.getElem_cons_succ, List.getElem_cons_zero]
  refine wpTail_take (i := 2) (v := ?_) rfl (by kernel_rfl) (by kernel_rfl) (by kernel_rfl) rfl (by kernel_rfl) (fun _ _ _ h => h) (Or.inl ⟨by rfl, ?_⟩) (by assumption) ?_
  rotate_left
  · (intro w hSw; (try dsimp only at hSw); go_simp; try with_reducible rfl)
  try simp only [Act.put, List.setIfInBounds_toArray, List.set_cons_zero, List.set_cons_succ, List.getElem_toArray, List.getElem_cons_succ, List.getElem_cons_zero]
  refine wpTail_take (i := 3) (v := ?_) rfl (by kernel_rfl) (by kernel_rfl) (by kernel_rfl) rfl (by kernel_rfl) (fun _ _ _ h => h) (Or.inl ⟨by rfl, ?_⟩) (by assumption) ?_
  rotate_left
  · (intro w hSw; (try dsimp only at hSw); go_simp; try with_reducible rfl)
  try simp only [Act.put, List.setIfInBounds_toArray, List.set_cons_zero, List.set_cons_succ, List.getElem_toArray, List.getElem_cons_succ, List.getElem_cons_zero]
  refine wpTail_take (i := 4) (v := ?_) rfl (by kernel_rfl) (by kernel_rfl) (by kernel_rfl) rfl (by kernel_rfl) (fun _ _ _ h => h) (Or.inl ⟨by rfl, ?_⟩) (by assumption) ?_
  rotate_left
  · (intro w hSw; (try dsimp only at hSw); go_simp; try with_reducible rfl)
  try simp only [Act.put, List.setIfInBounds_toArray, List.set_cons_zero, List.set_cons_succ, List.getElem_toArray, List.getElem_cons_succ, List.getElem_cons_zero]
  refine wpTail_take (i := 5) (v := ?_) rfl (by kernel_rfl) (by kernel_rfl) (by kernel_rfl) rfl (by kernel_rfl) (fun _ _ _ h => h) (Or.inl ⟨by rfl, ?_⟩) (by assumption) ?_
  rotate_left
  · (intro w hSw; (try dsimp only at hSw); go_simp; try with_reducible rfl)
  try simp only [Act.put, List.setIfInBounds_toArray, List.set_cons_zero, List.set_cons_succ, List.getElem_toArray, List.getElem_cons_succ, List.getElem_cons_zero]
  refine wpTail_take (i := 6) (v := ?_) rfl (by kernel_rfl) (by kernel_rfl) (by kernel_rfl) rfl (by kernel_rfl) (fun _ _ _ h => h) (Or.inl ⟨by rfl, ?_⟩) (by assumption) ?_
  rotate_left
  · (intro w hSw; (try dsimp only at hSw); go_simp; try with_reducible rfl)
  try simp only [Act.put, List.setIfInBounds_toArray, List.set_cons_zero, List.set_cons_succ, List.getElem_toArray, List.getElem_cons_succ, List.getElem_cons_zero]
  refine wpTail_take (i := 7) (v := ?_) rfl (by kernel_rfl) (by kernel_rfl) (by kernel_rfl) rfl (by kernel_rfl) (fun _ _ _ h => h) (Or.inl ⟨by rfl, ?_⟩) (by assumption) ?_
  rotate_left
  · (intro w hSw; (try dsimp only at hSw); go_simp; try with_reducible rfl)
  try simp only [Act.put, List.setIfInBounds_toArray, List.set_cons_zero, List.set_cons_succ, List.getElem_toArray, List.getElem_cons_succ, List.getElem_cons_zero]
  refine wpTail_one (i := 1) (by kernel_rfl) rfl rfl (fun K hK => ?_)
  try simp only [Act.put, List.setIfInBounds_toArray, List.set_cons_zero, List.set_cons_succ, List.getElem_toArray, List.getElem_cons_succ, List.getElem_cons_zero]
  go_simp
  refine (offsets_c b1 (.slice p0 s1.length c0) (.slice p1 t1.length c1) s1 t1 _ _ _ (h1.ext (Xw1.trans (by repeat (first | (with_reducible assumption) | (with_reducible refine Ext.setCell ?_ (by first | (simp; done) | (simp; omega) | omega) _) | (with_reducible apply Ext.alloc) | (with_reducible apply Ext.drew) | (with_reducible apply Ext.drewN) | (with_reducible exact Ext.refl _))))) (k1.ext (Xw1.trans (by repeat (first | (with_reducible assumption) | (with_reducible refine Ext.setCell ?_ (by first | (simp; done) | (simp; omega) | omega) _) | (with_reducible apply Ext.alloc) | (with_reducible apply Ext.drew) | (with_reducible apply Ext.drewN) | (with_reducible exact Ext.refl _))))) (by first | omega | exact (vw ha.out).1 | exact (vw ha.out).2.1 | exact (vw ha.out).2.2.1 | exact (vw ha.out).2.2.2) (by first | omega | exact (vw ha.out).1 | exact (vw ha.out).2.1 | exact (vw ha.out).2.2.1 | exact (vw ha.out).2.2.2) (by first | omega | exact (vw ha.out).1 | exact (vw ha.out).2.1 | exact (vw ha.out).2.2.1 | exact (vw ha.out).2.2.2)).mono ?_
  rintro e w2 ⟨fv2, rfl, i3, -, xw2⟩
  have Lw2 : Ext w1 w2 := Ext.trans (by repeat (first | (with_reducible assumption) | (with_reducible refine Ext.setCell ?_ (by first | (simp; done) | (simp; omega) | omega) _) | (with_reducible apply Ext.alloc) | (with_reducible apply Ext.drew) | (with_reducible apply Ext.drewN) | (with_reducible exact Ext.refl _))) xw2
  have Xw2 : Ext w w2 := Xw1.trans Lw2
  replace b10 := Lw2.cell b10
  replace b11 := Lw2.cell b11
  replace b12 := Lw2.cell b12
  have z_b1 : w.heap.size < w2.heap.size := World.block_lt_of_cell? _ _ b10
  have s_w2 : w.heap.size ≤ w2.heap.size := Xw2.size
  clear xw2
  obtain ⟨afv2, cfv2, rfl⟩ := i3.form
  refine hK.out _ _ ⟨b10, b11, b12⟩ (fun hHeld => ?_)
  clear hK K
  try simp only [Act.put, List.setIfInBounds_toArray, List.set_cons_zero, List.set_cons_succ, List.getElem_toArray, List.getElem_cons_succ, List.getElem_cons_zero]
  refine wpTail_one (i := 8) (by kernel_rfl) rfl rfl (fun K hK => ?_)
  try simp only [Act.put, List.setIfInBounds_toArray, List.set_cons_zero, List.set_cons_succ, List.getElem_toArray, List.getElem_cons_succ, List.getElem_cons_zero]
  go_simp
  refine (offsets_c b1 (.slice p0 s1.length c0) (.slice p2 r.length c2) s1 r _ _ _ (h1.ext (Xw2.trans (by repeat (first | (with_reducible assumption) | (with_reducible refine Ext.setCell ?_ (by first | (simp; done) | (simp; omega) | omega) _) | (with_reducible apply Ext.alloc) | (with_reducible apply Ext.drew) | (with_reducible apply Ext.drewN) | (with_reducible exact Ext.refl _))))) (h3.ext (Xw2.trans (by repeat (first | (with_reducible assumption) | (with_reducible refine Ext.setCell ?_ (by first | (simp; done) | (simp; omega) | omega) _) | (with_reducible apply Ext.alloc) | (with_reducible apply Ext.drew) | (with_reducible apply Ext.drewN) | (with_reducible exact Ext.refl _))))) (by omega) (by first | omega | exact (vw ha.out).1 | exact (vw ha.out).2.1 | exact (vw ha.out).2.2.1 | exact (vw ha.out).2.2.2) (by first | omega | exact (vw ha.out).1 | exact (vw ha.out).2.1 | exact (vw ha.out).2.2.1 | exact (vw ha.out).2.2.2)).mono ?_
  rintro e w3 ⟨fv4, rfl, i5, -, xw3⟩
  have Lw3 : Ext w2 w3 := Ext.trans (by repeat (first | (with_reducible assumption) | (with_reducible refine Ext.setCell ?_ (by first | (simp; done) | (simp; omega) | omega) _) | (with_reducible apply Ext.alloc) | (with_reducible apply Ext.drew) | (with_reducible apply Ext.drewN) | (with_reducible exact Ext.refl _))) xw3
  have Xw3 : Ext w w3 := Xw2.trans Lw3
  replace b10 := Lw3.cell b10
  replace b11 := Lw3.cell b11
  replace b12 := Lw3.cell b12
  have z_b1 : w.heap.size < w3.heap.size := World.block_lt_of_cell? _ _ b10
  replace i3 := i3.ext Lw3
  have s_w3 : w.heap.size ≤ w3.heap.size := Xw3.size
  clear xw3
  obtain ⟨afv4, cfv4, rfl⟩ := i5.form
  refine hK.out _ _ ⟨b10, b11, b12⟩ (fun hHeld => ?_)
  clear hK K
  try simp only [Act.put, List.setIfInBounds_toArray, List.set_cons_zero, List.set_cons_succ, List.getElem_toArray, List.getElem_cons_succ, List.getElem_cons_zero]
  refine wpTail_one (i := 9) (by kernel_rfl) rfl rfl (fun K hK => ?_)
  try simp only [Act.put, List.setIfInBounds_toArray, List.set_cons_zero, List.set_cons_succ, List.getElem_toArray, List.getElem_cons_succ, List.getElem_cons_zero]
  go_simp
  refine (sameInts_c (offsL b1 s1 t1) (offsL b1 s1 r) (.slice afv2 ((offsL b1 s1 t1).length) cfv2) (.slice afv4 ((offsL b1 s1 r).length) cfv4) _ _ _ (i3.ext (by repeat (first | (with_reducible assumption) | (with_reducible refine Ext.setCell ?_ (by first | (simp; done) | (simp; omega) | omega) _) | (with_reducible apply Ext.alloc) | (with_reducible apply Ext.drew) | (with_reducible apply Ext.drewN) | (with_reducible exact Ext.refl _)))) (i5.ext (by repeat (first | (with_reducible assumption) | (with_reducible refine Ext.setCell ?_ (by first | (simp; done) | (simp; omega) | omega) _) | (with_reducible apply Ext.alloc) | (with_reducible apply Ext.drew) | (with_reducible apply Ext.drewN) | (with_reducible exact Ext.refl _))))).mono ?_
  rintro e w4 ⟨rfl, xw4⟩
  have Lw4 : Ext w3 w4 := Ext.trans (by repeat (first | (with_reducible assumption) | (with_reducible refine Ext.setCell ?_ (by first | (simp; done) | (simp; omega) | omega) _) | (with_reducible apply Ext.alloc) | (with_reducible apply Ext.drew) | (with_reducible apply Ext.drewN) | (with_reducible exact Ext.refl _))) xw4
  have Xw4 : Ext w w4 := Xw3.trans Lw4
  replace b10 := Lw4.cell b10
  replace b11 := Lw4.cell b11
  replace b12 := Lw4.cell b12
  have z_b1 : w.heap.size < w4.heap.size := World.block_lt_of_cell? _ _ b10
  replace i3 := i3.ext Lw4
  replace i5 := i5.ext Lw4
  have s_w4 : w.heap.size ≤ w4.heap.size := Xw4.size
  clear xw4
  cases hB6 : sameB (offsL b1 s1 t1) (offsL b1 s1 r)
  · replace hB6 := Lib.hid hB6
    refine hK.out _ _ ⟨b10, b11, b12⟩ (fun hHeld => ?_)
    clear hK K
    try simp only [Act.put, List.setIfInBounds_toArray, List.set_cons_zero, List.set_cons_succ, List.getElem_toArray, List.getElem_cons_succ, List.getElem_cons_zero]
    refine wpTail_take (i := 10) (v := ?_) rfl (by kernel_rfl) (by kernel_rfl) (by kernel_rfl) rfl (by kernel_rfl) (fun _ _ _ h => h) (Or.inl ⟨by rfl, ?_⟩) (by assumption) ?_
    rotate_left
    · (intro w hSw; (try dsimp only at hSw); go_simp; try with_reducible rfl)
    try simp only [Act.put, List.setIfInBounds_toArray, List.set_cons_zero, List.set_cons_succ, List.getElem_toArray, List.getElem_cons_succ, List.getElem_cons_zero]
    refine wpTail_done (by kernel_rfl) ?_ _
    clear hHeld 
    go_wp2_with fail
    go_ret
    exact ⟨by rw [hB6.out] <;> rfl, (Xw4.trans (by repeat (first | (with_reducible assumption) | (with_reducible refine Ext.setCell ?_ (by first | (simp; done) | (simp; omega) | omega) _) | (with_reducible apply Ext.alloc) | (with_reducible apply Ext.drew) | (with_reducible apply Ext.drewN) | (with_reducible exact Ext.refl _))))⟩
  · replace hB6 := Lib.hid hB6
    refine hK.out _ _ ⟨b10, b11, b12⟩ (fun hHeld => ?_)
    clear hK K
    try simp only [Act.put, List.setIfInBounds_toArray, List.set_cons_zero, List.set_cons_succ, List.getElem_toArray, List.getElem_cons_succ, List.getElem_cons_zero]
    refine wpTail_take (i := 10) (v := ?_) rfl (by kernel_rfl) (by kernel_rfl) (by kernel_rfl) rfl (by kernel_rfl) (fun _ _ _ h => h) (Or.inl ⟨by rfl, ?_⟩) (by assumption) ?_
    rotate_left
    · (intro w hSw; (try dsimp only at hSw); go_simp; try with_reducible rfl)
    try simp only [Act.put, List.setIfInBounds_toArray, List.set_cons_zero, List.set_cons_succ, List.getElem_toArray, List.getElem_cons_succ, List.getElem_cons_zero]
    refine wpTail_done (by kernel_rfl) ?_ _
    clear hHeld 
    go_wp2_with fail
    go_ret
    exact ⟨by rw [hB6.out] <;> rfl, (Xw4.trans (by repeat (first | (with_reducible assumption) | (with_reducible refine Ext.setCell ?_ (by first | (simp; done) | (simp; omega) | omega) _) | (with_reducible apply Ext.alloc) | (with_reducible apply Ext.drew) | (with_reducible apply Ext.drewN) | (with_reducible exact Ext.refl _))))⟩


end Go.Proofs.Ytnjaidgifccgjaa

/- FnOffsetAt returns true for all bytes: no condition. -/
namespace Go.Proofs.Ytnjaidgifccgjaa
open Go.RowKit
set_option linter.unusedVariables false
set_option maxRecDepth 100000


theorem at_law {b : Int} {s t r : List Int} (h : okA b s t r = true) : ∃ m : Nat, rankA s r = m ∧ m < (offA b s t).length ∧ (offA b s t).getD m 0 = atA b s t r := by
  have h0 := h
  unfold okA at h
  rw [Bool.and_eq_true] at h
  obtain ⟨hv, hi⟩ := h
  have e : offA b s t = offsL b s t := by unfold offA; rw [if_pos hv]
  have hix := (ixB_iff s r).1 hi
  have hs := view_small hv
  obtain ⟨⟨g1, g2⟩, g3⟩ := offs_rank hv hix
  have hr : rankA s r = rankL s r := by
    unfold rankA; rw [(viewB_in hv).1, hi]
    exact (rankL_eq hix.len.symm hs (ixB_small hi hs)).symm
  refine ⟨(rankL s r).toNat, by rw [hr]; omega, by rw [e, offs_count]; omega, ?_⟩
  rw [e, g3]
  unfold atA; rw [if_pos h0]
  exact (dot_ix hv hix).symm
theorem rank_m {s r : List Int} {m : Nat} (he : rankA s r = m) (v1 v2 : Value) (w : World) (l1 l2 : Nat) (h1 : Ints w l1 v1 s) (h2 : Ints w l2 v2 r) :
    Calls Try.prog 23 #[v1, v2] w (fun e w' => e = .returned (.int .i64 (m : Int)) ∧ w = w') := he ▸ implRankOf_c s r v1 v2 w l1 l2 h1 h2

set_option maxHeartbeats 3200000 in
theorem lawFnOffsetAt_c (a : Option Addr) (n cap : Nat) (w : World) (hb : BysIn w a n cap) :
    Calls Try.prog 7 #[.slice a n cap] w fun e w' => e = .returned (.bool true) ∧ Ext w w' := by
  have hcm := hb.1
  have hcm2 := hb.2.1
  unfold maxLen at hcm2
  go_enter Try.func7, Try.ntmps7
  by_cases hc1 : (1048576 : Int) < (n : Int)
  · go_wp2_with fail
    go_ret
    exact ⟨rfl, (by repeat (first | exact Ext.refl _ | assumption | apply Ext.drewN | apply Ext.drew | apply Ext.alloc))⟩
  · go_wp2_with fail
    refine (drawOffsetAt_c a n cap _ hb).mono ?_
    rintro e w1 ⟨⟨b, s, t, p1, p2, r1, r2, ix, p3, r3, rfl, i1, i2, l1, l2, i3, l3⟩, xw1⟩
    have Lw1 : Ext w w1 := Ext.trans (by repeat (first | (with_reducible assumption) | (with_reducible refine Ext.setCell ?_ (by first | (simp; done) | (simp; omega) | omega) _) | (with_reducible apply Ext.alloc) | (with_reducible apply Ext.drew) | (with_reducible apply Ext.drewN) | (with_reducible exact Ext.refl _))) xw1
    have Xw1 : Ext w w1 := Lw1
    have s_w1 : w.heap.size ≤ w1.heap.size := Xw1.size
    clear xw1
    clear hb
    go_wp2_with fail
    refine (implOffsetAt_c b (.slice p1 s.length r1) (.slice p2 t.length r2) s t (.slice p3 ix.length r3) ix _ _ _ (i1.ext (by repeat (first | (with_reducible assumption) | (with_reducible refine Ext.setCell ?_ (by first | (simp; done) | (simp; omega) | omega) _) | (with_reducible apply Ext.alloc) | (with_reducible apply Ext.drew) | (with_reducible apply Ext.drewN) | (with_reducible exact Ext.refl _)))) (i2.ext (by repeat (first | (with_reducible assumption) | (with_reducible refine Ext.setCell ?_ (by first | (simp; done) | (simp; omega) | omega) _) | (with_reducible apply Ext.alloc) | (with_reducible apply Ext.drew) | (with_reducible apply Ext.drewN) | (with_reducible exact Ext.refl _)))) _ (i3.ext (by repeat (first | (with_reducible assumption) | (with_reducible refine Ext.setCell ?_ (by first | (simp; done) | (simp; omega) | omega) _) | (with_reducible apply Ext.alloc) | (with_reducible apply Ext.drew) | (with_reducible apply Ext.drewN) | (with_reducible exact Ext.refl _))))).mono ?_
    rintro e w2 ⟨rfl, xw2⟩
    have Lw2 : Ext w1 w2 := Ext.trans (by repeat (first | (with_reducible assumption) | (with_reducible refine Ext.setCell ?_ (by first | (simp; done) | (simp; omega) | omega) _) | (with_reducible apply Ext.alloc) | (with_reducible apply Ext.drew) | (with_reducible apply Ext.drewN) | (with_reducible exact Ext.refl _))) xw2
    have Xw2 : Ext w w2 := Xw1.trans Lw2
    have b20 : w2.cell? ⟨w1.heap.size, 0, none⟩ = some (.int .i64 b) := xw2.cell (by first | (simp; done) | ((repeat rw [World.cell?_alloc_lt _ _ _ (by simp <;> omega)]); simp; done) | (go_simp; done))
    have b21 : w2.cell? ⟨w1.heap.size, 1, none⟩ = some (.slice p1 s.length r1) := xw2.cell (by first | (simp; done) | ((repeat rw [World.cell?_alloc_lt _ _ _ (by simp <;> omega)]); simp; done) | (go_simp; done))
    have b22 : w2.cell? ⟨w1.heap.size, 2, none⟩ = some (.slice p2 t.length r2) := xw2.cell (by first | (simp; done) | ((repeat rw [World.cell?_alloc_lt _ _ _ (by simp <;> omega)]); simp; done) | (go_simp; done))
    have z_b2 : w1.heap.size < w2.heap.size := World.block_lt_of_cell? _ _ b20
    replace i1 := i1.ext Lw2
    replace i2 := i2.ext Lw2
    replace i3 := i3.ext Lw2
    have s_w2 : w.heap.size ≤ w2.heap.size := Xw2.size
    clear xw2
    cases hB3 : okA b s t ix
    · replace hB3 := Lib.hid hB3
      go_wp2_with fail
      refine (specOffsetAt_c b (.slice p1 s.length r1) (.slice p2 t.length r2) s t (.slice p3 ix.length r3) ix _ _ _ (i1.ext (by repeat (first | (with_reducible assumption) | (with_reducible refine Ext.setCell ?_ (by first | (simp; done) | (simp; omega) | omega) _) | (with_reducible apply Ext.alloc) | (with_reducible apply Ext.drew) | (with_reducible apply Ext.drewN) | (with_reducible exact Ext.refl _)))) (i2.ext (by repeat (first | (with_reducible assumption) | (with_reducible refine Ext.setCell ?_ (by first | (simp; done) | (simp; omega) | omega) _) | (with_reducible apply Ext.alloc) | (with_reducible apply Ext.drew) | (with_reducible apply Ext.drewN) | (with_reducible exact Ext.refl _)))) _ (i3.ext (by repeat (first | (with_reducible assumption) | (with_reducible refine Ext.setCell ?_ (by first | (simp; done) | (simp; omega) | omega) _) | (with_reducible apply Ext.alloc) | (with_reducible apply Ext.drew) | (with_reducible apply Ext.drewN) | (with_reducible exact Ext.refl _))))).mono ?_
      rintro e w3 ⟨rfl, xw3⟩
      have Lw3 : Ext w2 w3 := Ext.trans (by repeat (first | (with_reducible assumption) | (with_reducible refine Ext.setCell ?_ (by first | (simp; done) | (simp; omega) | omega) _) | (with_reducible apply Ext.alloc) | (with_reducible apply Ext.drew) | (with_reducible apply Ext.drewN) | (with_reducible exact Ext.refl _))) xw3
      have Xw3 : Ext w w3 := Xw2.trans Lw3
      replace b20 := Lw3.cell b20
      replace b21 := Lw3.cell b21
      replace b22 := Lw3.cell b22
      have z_b2 : w1.heap.size < w3.heap.size := World.block_lt_of_cell? _ _ b20
      replace i1 := i1.ext Lw3
      replace i2 := i2.ext Lw3
      replace i3 := i3.ext Lw3
      have s_w3 : w.heap.size ≤ w3.heap.size := Xw3.size
      clear xw3
      rw [hB3.out]
      go_wp2_with fail
      go_ret
      exact ⟨rfl, (Xw3.trans (by repeat (first | (with_reducible assumption) | (with_reducible refine Ext.setCell ?_ (by first | (simp; done) | (simp; omega) | omega) _) | (with_reducible apply Ext.alloc) | (with_reducible apply Ext.drew) | (with_reducible apply Ext.drewN) | (with_reducible exact Ext.refl _))))⟩
    · replace hB3 := Lib.hid hB3
      obtain ⟨m, hm, hmlt, hfin⟩ := at_law hB3.out
      replace hm := Lib.hid hm
      replace hfin := Lib.hid hfin
      go_wp2_with fail
      refine (specOffsetAt_c b (.slice p1 s.length r1) (.slice p2 t.length r2) s t (.slice p3 ix.length r3) ix _ _ _ (i1.ext (by repeat (first | (with_reducible assumption) | (with_reducible refine Ext.setCell ?_ (by first | (simp; done) | (simp; omega) | omega) _) | (with_reducible apply Ext.alloc) | (with_reducible apply Ext.drew) | (with_reducible apply Ext.drewN) | (with_reducible exact Ext.refl _)))) (i2.ext (by repeat (first | (with_reducible assumption) | (with_reducible refine Ext.setCell ?_ (by first | (simp; done) | (simp; omega) | omega) _) | (with_reducible apply Ext.alloc) | (with_reducible apply Ext.drew) | (with_reducible apply Ext.drewN) | (with_reducible exact Ext.refl _)))) _ (i3.ext (by repeat (first | (with_reducible assumption) | (with_reducible refine Ext.setCell ?_ (by first | (simp; done) | (simp; omega) | omega) _) | (with_reducible apply Ext.alloc) | (with_reducible apply Ext.drew) | (with_reducible apply Ext.drewN) | (with_reducible exact Ext.refl _))))).mono ?_
      rintro e w3 ⟨rfl, xw3⟩
      have Lw3 : Ext w2 w3 := Ext.trans (by repeat (first | (with_reducible assumption) | (with_reducible refine Ext.setCell ?_ (by first | (simp; done) | (simp; omega) | omega) _) | (with_reducible apply Ext.alloc) | (with_reducible apply Ext.drew) | (with_reducible apply Ext.drewN) | (with_reducible exact Ext.refl _))) xw3
      have Xw3 : Ext w w3 := Xw2.trans Lw3
      replace b20 := Lw3.cell b20
      replace b21 := Lw3.cell b21
      replace b22 := Lw3.cell b22
      have z_b2 : w1.heap.size < w3.heap.size := World.block_lt_of_cell? _ _ b20
      replace i1 := i1.ext Lw3
      replace i2 := i2.ext Lw3
      replace i3 := i3.ext Lw3
      have s_w3 : w.heap.size ≤ w3.heap.size := Xw3.size
      clear xw3
      rw [hB3.out]
      go_wp2_with fail
      refine wp_region_tail (S := fun w' => w'.cell? ⟨w1.heap.size, 0, none⟩ = some (.int .i64 b) ∧ w'.cell? ⟨w1.heap.size, 1, none⟩ = some (.slice p1 s.length r1) ∧ w'.cell? ⟨w1.heap.size, 2, none⟩ = some (.slice p2 t.length r2)) (fun i => decide (11 ≤ i)) (by kernel_rfl) ⟨b20, b21, b22⟩ (fun hHeld => ?_)
      refine wpTail_take (i := 0) (v := ?_) rfl (by kernel_rfl) (by kernel_rfl) (by kernel_rfl) rfl (by kernel_rfl) (fun _ _ _ h => h) (Or.inl ⟨by rfl, ?_⟩) (by assumption) ?_
      rotate_left
      · (intro w hSw; (try dsimp only at hSw); go_simp; try with_reducible rfl)
      try simp only [Act.put, List.setIfInBounds_toArray, List.set_cons_zero, List.set_cons_succ, List.getElem_toArray, List.getElem_cons_succ, List.getElem_cons_zero]
      refine wpTail_take (i := 2) (v := ?_) rfl (by kernel_rfl) (by kernel_rfl) (by kernel_rfl) rfl (by kernel_rfl) (fun _ _ _ h => h) (Or.inl ⟨by rfl, ?_⟩) (by assumption) ?_
      rotate_left
      · (intro w hSw; (try dsimp only at hSw); go_simp; try with_reducible rfl)
      try simp only [Act.put, List.setIfInBounds_toArray, List.set_cons_zero, List.set_cons_succ, List.getElem_toArray, List.getElem_cons_succ, List.getElem_cons_zero]
      refine wpTail_take (i := 3) (v := ?_) rfl (by kernel_rfl) (by kernel_rfl) (by kernel_rfl) rfl (by kernel_rfl) (fun _ _ _ h => h) (Or.inl ⟨by rfl, ?_⟩) (by assumption) ?_
      rotate_left
      · (intro w hSw; (try dsimp only at hSw); go_simp; try with_reducible rfl)
      try simp only [Act.put, List.setIfInBounds_toArray, List.set_cons_zero, List.set_cons_succ, List.getElem_toArray, List.getElem_cons_succ, List.getElem_cons_zero]
      refine wpTail_take (i := 4) (v := ?_) rfl (by kernel_rfl) (by kernel_rfl) (by kernel_rfl) rfl (by kernel_rfl) (fun _ _ _ h => h) (Or.inl ⟨by rfl, ?_⟩) (by assumption) ?_
      rotate_left
      · (intro w hSw; (try dsimp only at hSw); go_simp; try with_reducible rfl)
      try simp only [Act.put, List.setIfInBounds_toArray, List.set_cons_zero, List.set_cons_succ, List.getElem_toArray, List.getElem_cons_succ, List.getElem_cons_zero]
      refine wpTail_take (i := 8) (v := ?_) rfl (by kernel_rfl) (by kernel_rfl) (by kernel_rfl) rfl (by kernel_rfl) (fun _ _ _ h => h) (Or.inl ⟨by rfl, ?_⟩) (by assumption) ?_
      rotate_left
      · (intro w hSw; (try dsimp only at hSw); go_simp; try with_reducible rfl)
      try simp only [Act.put, List.setIfInBounds_toArray, List.set_cons_zero, List.set_cons_succ, List.getElem_toArray, List.getElem_cons_succ, List.getElem_cons_zero]
      refine wpTail_one (i := 1) (by kernel_rfl) rfl rfl (fun K hK => ?_)
      try simp only [Act.put, List.setIfInBounds_toArray, List.set_cons_zero, List.set_cons_succ, List.getElem_toArray, List.getElem_cons_succ, List.getElem_cons_zero]
      go_simp
      refine (implOffsetsOf_c b (.slice p1 s.length r1) (.slice p2 t.length r2) s t _ _ _ (i1.ext (by repeat (first | (with_reducible assumption) | (with_reducible refine Ext.setCell ?_ (by first | (simp; done) | (simp; omega) | omega) _) | (with_reducible apply Ext.alloc) | (with_reducible apply Ext.drew) | (with_reducible apply Ext.drewN) | (with_reducible exact Ext.refl _)))) (i2.ext (by repeat (first | (with_reducible assumption) | (with_reducible refine Ext.setCell ?_ (by first | (simp; done) | (simp; omega) | omega) _) | (with_reducible apply Ext.alloc) | (with_reducible apply Ext.drew) | (with_reducible apply Ext.drewN) | (with_reducible exact Ext.refl _))))).mono ?_
      rintro e w4 ⟨fv4, rfl, i5, -, xw4⟩
      have Lw4 : Ext w3 w4 := Ext.trans (by repeat (first | (with_reducible assumption) | (with_reducible refine Ext.setCell ?_ (by first | (simp; done) | (simp; omega) | omega) _) | (with_reducible apply Ext.alloc) | (with_reducible apply Ext.drew) | (with_reducible apply Ext.drewN) | (with_reducible exact Ext.refl _))) xw4
      have Xw4 : Ext w w4 := Xw3.trans Lw4
      replace b20 := Lw4.cell b20
      replace b21 := Lw4.cell b21
      replace b22 := Lw4.cell b22
      have z_b2 : w1.heap.size < w4.heap.size := World.block_lt_of_cell? _ _ b20
      replace i1 := i1.ext Lw4
      replace i2 := i2.ext Lw4
      replace i3 := i3.ext Lw4
      have s_w4 : w.heap.size ≤ w4.heap.size := Xw4.size
      clear xw4
      obtain ⟨afv4, cfv4, rfl⟩ := i5.form
      refine hK.out _ _ ⟨b20, b21, b22⟩ (fun hHeld => ?_)
      clear hK K
      try simp only [Act.put, List.setIfInBounds_toArray, List.set_cons_zero, List.set_cons_succ, List.getElem_toArray, List.getElem_cons_succ, List.getElem_cons_zero]
      refine wpTail_one (i := 5) (by kernel_rfl) rfl rfl (fun K hK => ?_)
      try simp only [Act.put, List.setIfInBounds_toArray, List.set_cons_zero, List.set_cons_succ, List.getElem_toArray, List.getElem_cons_succ, List.getElem_cons_zero]
      go_simp
      refine (rank_m hm.out _ _ _ _ _ (i1.ext (by repeat (first | (with_reducible assumption) | (with_reducible refine Ext.setCell ?_ (by first | (simp; done) | (simp; omega) | omega) _) | (with_reducible apply Ext.alloc) | (with_reducible apply Ext.drew) | (with_reducible apply Ext.drewN) | (with_reducible exact Ext.refl _)))) (i3.ext (by repeat (first | (with_reducible assumption) | (with_reducible refine Ext.setCell ?_ (by first | (simp; done) | (simp; omega) | omega) _) | (with_reducible apply Ext.alloc) | (with_reducible apply Ext.drew) | (with_reducible apply Ext.drewN) | (with_reducible exact Ext.refl _))))).mono ?_
      rintro e w' ⟨rfl, rfl⟩
      refine hK.out _ _ ⟨b20, b21, b22⟩ (fun hHeld => ?_)
      clear hK K
      try simp only [Act.put, List.setIfInBounds_toArray, List.set_cons_zero, List.set_cons_succ, List.getElem_toArray, List.getElem_cons_succ, List.getElem_cons_zero]
      have hN_e8 : m < (offA b s t).length := (by omega)
      have hI_e8 : (m : Int) < ((offA b s t).length : Int) := by omega
      obtain ⟨bl6, ol7, rfl, e80⟩ := i5.at m (by omega)
      obtain ⟨v9, hv9⟩ : ∃ v, (offA b s t).getD m 0 = v := ⟨_, rfl⟩
      rw [hv9] at e80
      replace hv9 := Lib.hid hv9
      have y_e8 : bl6 < w4.heap.size := World.block_lt_of_cell? _ _ e80
      have z_e8 := y_e8
      refine wpTail_take (i := 6) (v := ?_) rfl (by kernel_rfl) (by kernel_rfl) (by kernel_rfl) rfl (by kernel_rfl) (fun _ _ _ h => h) (Or.inl ⟨by rfl, ?_⟩) (by assumption) ?_
      rotate_left
      · (intro w hSw; (try dsimp only at hSw); go_simp; try with_reducible rfl)
      try simp only [Act.put, List.setIfInBounds_toArray, List.set_cons_zero, List.set_cons_succ, List.getElem_toArray, List.getElem_cons_succ, List.getElem_cons_zero]
      refine wpTail_one (i := 7) (by kernel_rfl) rfl rfl (fun K hK => ?_)
      try simp only [Act.put, List.setIfInBounds_toArray, List.set_cons_zero, List.set_cons_succ, List.getElem_toArray, List.getElem_cons_succ, List.getElem_cons_zero]
      go_simp
      refine hK.out _ _ ⟨b20, b21, b22⟩ (fun hHeld => ?_)
      clear hK K
      try simp only [Act.put, List.setIfInBounds_toArray, List.set_cons_zero, List.set_cons_succ, List.getElem_toArray, List.getElem_cons_succ, List.getElem_cons_zero]
      have hq10e : ((v9 : Int) == (atA b s t ix : Int)) = true := by have h7 : (v9 : Int) = (atA b s t ix : Int) := (by rw [← hv9.out]; exact hfin.out); simpa using h7
      have hq10n : ((v9 : Int) != (atA b s t ix : Int)) = false := by have h7 : (v9 : Int) = (atA b s t ix : Int) := (by rw [← hv9.out]; exact hfin.out); simpa using h7
      refine wpTail_take (i := 9) (v := ?_) rfl (by kernel_rfl) (by kernel_rfl) (by kernel_rfl) rfl (by kernel_rfl) (fun _ _ _ h => h) (Or.inl ⟨by rfl, ?_⟩) (by assumption) ?_
      rotate_left
      · (intro w hSw; (try dsimp only at hSw); go_simp; try with_reducible rfl)
      try simp only [Act.put, List.setIfInBounds_toArray, List.set_cons_zero, List.set_cons_succ, List.getElem_toArray, List.getElem_cons_succ, List.getElem_cons_zero]
      refine wpTail_take (i := 10) (v := ?_) rfl (by kernel_rfl) (by kernel_rfl) (by kernel_rfl) rfl (by kernel_rfl) (fun _ _ _ h => h) (Or.inl ⟨by rfl, ?_⟩) (by assumption) ?_
      rotate_left
      · (intro w hSw; (try dsimp only at hSw); go_simp; try with_reducible rfl)
      try simp only [Act.put, List.setIfInBounds_toArray, List.set_cons_zero, List.set_cons_succ, List.getElem_toArray, List.getElem_cons_succ, List.getElem_cons_zero]
      refine wpTail_done (by kernel_rfl) ?_ _
      clear hHeld 
      go_wp2_with fail
      go_ret
      exact ⟨rfl, (Xw4.trans (by repeat (first | (with_reducible assumption) | (with_reducible refine Ext.setCell ?_ (by first | (simp; done) | (simp; omega) | omega) _) | (with_reducible apply Ext.alloc) | (with_reducible apply Ext.drew) | (with_reducible apply Ext.drewN) | (with_reducible exact Ext.refl _))))⟩


end Go.Proofs.Ytnjaidgifccgjaa

/- The law FnOffsetAt holds for all bytes: the call returns true, and its argument reads as it did. No condition. -/
namespace Go.Proofs.Ytnjaidgifccgjaa.rowFnOffsetAt
open Go.ChangeShapes Go.WideShapes Go.ChangeAt Go.RowKit
set_option linter.unusedVariables false

set_option maxHeartbeats 1000000 in
set_option maxRecDepth 100000 in
theorem lifted (os : Os) (started : os.Started) (H : Type) (enc : TypeId × Value → H) :
    ReturnsInHanded {} Try.checked os 7 .any (Rows.fnOffsetAtSpec.pre6 enc Try.prog Try.f7 Rows.fnOffsetAtRow.domain false) (Rows.fnOffsetAtSpec.post enc Try.prog Try.f7 false true false false) := by
  refine returnsInHanded_of_change (C := Try.checked) own started (by kernel_rfl) Try.func7
    (ChangeSpec.witness6 (enc := enc) (C := Try.checked) false ⟨#[], #[.slice none 0 0], []⟩ 8 (by kernel_rfl) (by kernel_rfl) (by kernel_rfl) (by kernel_rfl)) ?_
  intro W base args ds gs before hval0 hW hcnd _
  have hval : ∀ (j : Nat) t v, Try.f7.params[j]? = some t → args[j]? = some v → Value.okWide Try.prog W .any base t v := hval0
  have hW' := hW
  obtain ⟨p, q, hA0, hV, rfl, hfz, hnd⟩ := hW
  have hA : DataW.TrodAll enc Try.prog W 0 (fun _ => true) true Try.f7.params.toList args.toList ds p := hA0
  rw [Try.params7] at hA hval
  obtain ⟨v0, vs0, d0, ds0, p0, q0, hargs0, rfl, rfl, h0, r0⟩ := trodAll_cons hA
  obtain ⟨rfl, rfl, rfl⟩ := trodAll_nil r0
  obtain rfl : args = #[v0] := by cases args; simp_all
  obtain ⟨rfl, rfl⟩ := trodVars_none hV
  obtain ⟨a0, len0, cap0, rfl⟩ := okWide_slice Try.underlying22 (hval 0 22 v0 rfl rfl)
  have k0 := h0
  have lt0 : ∀ x ∈ p0, x.block < W.heap.size := by obtain ⟨m, hm⟩ := k0; exact DataW.trod_lt m _ _ _ hm
  have w0 : BysIn W a0 len0 cap0 := by
    obtain ⟨fuel, hf⟩ := h0
    rcases open_ints Try.underlying22 Try.underlying5 (by kernel_rfl) hf with ⟨hcs, _⟩ | ⟨x, l, c, zs, hcs, _, hl, hm, hz, _, hcell, hwz⟩
    · simp [Value.cells] at hcs
      obtain ⟨rfl, rfl, rfl⟩ := hcs
      exact ⟨Nat.le_refl _, by simp, fun i hi => absurd hi (by simp)⟩
    · simp [Value.cells] at hcs
      obtain ⟨rfl, rfl, rfl⟩ := hcs
      have hzl : zs.length = cap0 := by simpa using hz
      exact bys_of_cells hl hm hzl hcell hwz
  clear hA0 hval0
  refine (lawFnOffsetAt_c a0 len0 cap0 W w0).mono fun e W' ⟨he, bel⟩ => ?_
  subst he
  exact ⟨_, rfl, _, _, _, [], _, [], hW', trodAll_mk1 (shut_bool Try.underlying4 _), (trodAll_cons_mk (Below.trod laidOut (by kernel_rfl) (of_decide_eq_true (by kernel_rfl)) k0 bel lt0) trodAll_mk0), rfl, Below.frame bel _, fun h => by cases h⟩

set_option maxHeartbeats 2000000 in
theorem closed : joinedFacts Try.checked.prog 7 Try.f7 Rows.fnOffsetAtSpec Rows.fnOffsetAtRow = true :=
  facts.all (by kernel_rfl) (by kernel_rfl) (by kernel_rfl) (by kernel_rfl) (by kernel_rfl) (by as_aux_lemma => kernel_rfl) (by as_aux_lemma => kernel_rfl) (by as_aux_lemma => kernel_rfl) (by as_aux_lemma => kernel_rfl)
    (by as_aux_lemma => kernel_rfl) (by as_aux_lemma => kernel_rfl) rfl rfl rfl rfl (by kernel_rfl) (by kernel_rfl) (by as_aux_lemma => kernel_rfl) (by as_aux_lemma => kernel_rfl)

theorem named : Try.pinned.checked.prog.funcNamed Rows.fnOffsetAtRow.func = some 7 := by kernel_rfl

theorem over : Rows.fnOffsetAtRow.holds Try.pinned (OpenSpec.ofChange Rows.fnOffsetAtSpec) :=
  OpenClaim.holds_of_wide 7 Try.f7 rfl rfl rfl rfl rfl rfl rfl ⟨rfl, rfl, rfl, rfl, rfl⟩ rfl rfl rfl rfl rfl named Try.func7 closed
    (of_decide_eq_true (by kernel_rfl)) (by unfold Func.isWrapper; exact ⟨rfl, rfl⟩)
    (fun os started H enc _ => lifted os started H enc)

theorem proved : Rows.FnOffsetAtSaid := over

end Go.Proofs.Ytnjaidgifccgjaa.rowFnOffsetAt
