/- Texts of these proofs put together: DrB, LvA, LvB, LvE, LvG, LvH, LawFnLoadView, RowFnLoadView. No condition. -/
import Derived.Test.YtnjaidgifccgjaaM5
import Derived.Test.YtnjaidgifccgjaaM2
import Derived.Test.YtnjaidgifccgjaaM1
set_option linter.unusedVariables false
set_option linter.unusedSimpArgs false
/- Walks: drawn memories, views of memories, values. -/
namespace Go.Proofs.Ytnjaidgifccgjaa
open Go.RowKit
set_option linter.unusedVariables false
set_option maxRecDepth 100000

theorem Ints.len_eq {w : World} {lo : Nat} {p : Option Addr} {n r : Nat} {s : List Int} (h : Ints w lo (.slice p n r) s) : n = s.length := by
  obtain ⟨a, c, e⟩ := h.form; simp at e; exact e.2.1
def PMem (rb k : Nat) (w : World) (e : Ending) (w' : World) : Prop := ∃ v xs, e = .returned v ∧ OwnI w' w.heap.size v xs ∧ xs.length ≤ 60 ∧ Rd w' rb k ∧ Chg rb (rb + 1) w w'
set_option maxHeartbeats 3200000 in
theorem someMemory_c (rb k : Nat) (w : World) (hr : Rd w rb k) (hk : k ≤ 700000) :
    Calls Try.prog 101 #[.pointer (some ⟨rb, 0, none⟩)] w (PMem rb (k + 70) w) := by
  have hlt := hr.lt
  go_enter Try.func101, Try.ntmps101
  go_wp2_with fail
  refine (oneLit_c _ _ _ rb _ _ (by repeat (first | (with_reducible exact hr) | (with_reducible apply Rd.drewN) | (with_reducible apply Rd.drew) | (with_reducible apply Rd.alloc) | ((with_reducible apply Rd.set2); (· first | assumption | (simp; omega) | (simp; done) | omega)))) (by omega) (by rfl) (by rfl) (by constructor <;> simp) (by first | rfl | simp)).mono ?_
  rintro e w1 ⟨n, rfl, hn, hr1, hC1⟩
  have hn' : 5 ≤ n ∧ n ≤ 60 := by simp [litL] at hn; omega
  clear hn
  obtain ⟨m, rfl⟩ : ∃ m : Nat, n = m := ⟨n.toNat, by omega⟩
  have ho1 : OwnI w1 w.heap.size (.slice (some ⟨w.heap.size, 0, none⟩) 0 0) [] := ((OwnI.lit0 w w.heap.size (Nat.le_refl _)).ext (by repeat (first | exact Ext.refl _ | assumption | apply Ext.drewN | apply Ext.drew | apply Ext.alloc))).chg hC1 hlt
  have hX1 : Chg rb (rb + 1) w w1 := Chg.trans (Chg.of_ext (by repeat (first | exact Ext.refl _ | assumption | apply Ext.drewN | apply Ext.drew | apply Ext.alloc))) hC1
  clear hC1
  go_wp2_with fail
  go_loopw [3, 4] (fun v i wr => ∃ (q m : Nat) (xs : List Int), i = .int .i64 m ∧ (xs.length + m ≤ 60 ∧ 1 ≤ xs.length + m) ∧ OwnI wr w.heap.size v xs ∧ Rd wr rb q ∧ q + m ≤ k + 62 ∧ Chg rb (rb + 1) w wr) (fun _ i _ => (intOf i).toNat)
  case atStart => exact ⟨k + 1, m, [], rfl, by simp; omega, ho1, hr1, by omega, hX1⟩
  case round =>
    obtain ⟨q, m, xs, rfl, hl, ho, hr, hq, hX⟩ := hrel
    have hz : w.heap.size ≤ wr.heap.size := hX.size
    cases m with
    | succ m =>
      have hI : (0 : Int) < ((m + 1 : Nat) : Int) := by omega
      have hI2 : ((m + 1 : Nat) : Int) - 1 = (m : Int) := by omega
      go_wp2_with fail
      refine (pick1_c _ rb _ _ hr (by omega) (by omega)).mono ?_
      rintro e w2 ⟨x, rfl, hx, hr2, hC2⟩
      have ho2 := ho.chg hC2 hlt
      have hX2 : Chg rb (rb + 1) w w2 := hX.trans hC2
      have hz2 : w.heap.size ≤ w2.heap.size := hX2.size
      clear hC2 hX ho hr hx
      replace ho2 := Lib.hid ho2
      replace hX2 := Lib.hid hX2
      replace hr2 := Lib.hid hr2
      go_wp2_with (at_builtin; refine wpList_app rfl (.tmp 13) (.tmp 16) rfl rfl rfl (ho2.out.ext ((Ext.refl _).alloc _)) (Ints.one _ 0 _ (Nat.zero_le _)) (by simp only [List.length_cons, List.length_nil]; omega) (by simp; omega) ?_; intro v' w3 ho3 _ hb3 _; replace ho3 := Lib.hid ho3)
      go_roundw
      case rel => exact ⟨q + 1, m, xs ++ [x], by first | rfl | go_num, by simp; omega, ho3.out, (hr2.out.alloc _).below hb3 hlt, by omega, Rch.below (hX2.out.ext (by repeat (first | exact Ext.refl _ | assumption | apply Ext.drewN | apply Ext.drew | apply Ext.alloc))) hb3⟩
      case measure => simp [intOf]
    | zero =>
      have hne : xs ≠ [] := by intro h; subst h; simp at hl
      obtain ⟨g, n2, c, rfl, hn2, G, G'⟩ := ho.row2 hne
      have hlx : 0 < xs.length := by omega
      have hnI : Hid ((0 : Int) < (n2 : Int)) := Lib.hid (by have := hn2.out; omega)
      replace hne := Lib.hid hne
      go_wp2_with fail
      refine (pick1_c _ rb _ _ hr (by omega) (by omega)).mono ?_
      rintro e w2 ⟨x, rfl, hx, hr2, hC2⟩
      have ho2 := ho.chg hC2 hlt
      have hX2 : Chg rb (rb + 1) w w2 := hX.trans hC2
      clear hC2 hX ho hr hx
      by_cases hx0 : x = 0
      · subst hx0
        go_wp2_with fail
        refine (oneLit_c _ _ _ rb _ _ (by exact hr2) (by omega) (by rfl) (by rfl) (by constructor <;> simp) (by first | rfl | simp)).mono ?_
        rintro e w3 ⟨y, rfl, hy, hr3, hC3⟩
        have ho3 := (ho2.ext (by repeat (first | exact Ext.refl _ | assumption | apply Ext.drewN | apply Ext.drew | apply Ext.alloc))).chg hC3 hlt
        have hX3 : Chg rb (rb + 1) w w3 := (hX2.ext (by repeat (first | exact Ext.refl _ | assumption | apply Ext.drewN | apply Ext.drew | apply Ext.alloc))).trans hC3
        have hz3 := hX3.size
        clear hC3 hX2 ho2 hr2 hy
        obtain ⟨A1, A2⟩ := ho3.cell 0 hlx
        have hnI' := hnI.out
        replace ho3 := Lib.hid ho3
        go_wp2_with fail
        go_ret
        exact ⟨_, xs.set 0 y, rfl, ho3.out.set 0 y hlx, by simp; omega, (Rd.set2 (by simp; omega) hr3).mono (by omega), Rch.set hX3 (by simp; omega) _⟩
      · have hxe : (x == 0) = false := by simpa using hx0
        replace hx0 := Lib.hid hx0
        replace ho2 := Lib.hid ho2
        go_wp2_with fail
        go_ret
        exact ⟨_, xs, rfl, ho2.out, by omega, hr2.mono (by omega), hX2⟩

/-- a memory and a view are drawn -/
def PMV (lo : Nat) (e : Ending) (w' : World) : Prop := ∃ (mem : List Int) (p0 : Option Addr) (n0 r0 : Nat) (b : Int) (s t : List Int) (p1 p2 : Option Addr) (n1 r1 n2 r2 : Nat), e = .returned (.tuple #[.slice p0 n0 r0, .agg #[.int .i64 b, .slice p1 n1 r1, .slice p2 n2 r2]]) ∧ mem.length ≤ 60 ∧
  Ints w' lo (.slice p0 n0 r0) mem ∧ Ints w' lo (.slice p1 n1 r1) s ∧ Ints w' lo (.slice p2 n2 r2) t ∧ s.length ≤ 4 ∧ t.length ≤ 5
set_option maxHeartbeats 3200000 in
theorem memView_c (rb k : Nat) (w : World) (hr : Rd w rb k) (hk : k ≤ 600000) :
    Calls Try.prog 81 #[.pointer (some ⟨rb, 0, none⟩)] w (fun e w' => PMV w.heap.size e w' ∧ Rd w' rb (k + 280) ∧ Chg rb (rb + 1) w w') := by
  have hlt := hr.lt
  go_enter Try.func81, Try.ntmps81
  go_wp2_with fail
  refine (someMemory_c rb k _ (hr.alloc _) (by omega)).mono ?_
  rintro e w1 ⟨v, mem, rfl, o0, hml, hr1, C1⟩
  have i0 := (o0.ints (by omega)).lower (show w.heap.size + 1 ≤ _ by simp)
  clear o0
  obtain ⟨p0, n0, r0, rfl⟩ := i0.any
  have E0 : Ext w (w.alloc (.cells #[.int .i64 0, .slice none 0 0, .slice none 0 0] 25)) := (by repeat (first | (with_reducible assumption) | (with_reducible refine Ext.setCell ?_ (by first | (simp; done) | (simp; omega) | omega) _) | (with_reducible apply Ext.alloc) | (with_reducible apply Ext.drew) | (with_reducible apply Ext.drewN) | (with_reducible exact Ext.refl _)))
  have X1 : Chg rb (rb + 1) w w1 := (Chg.of_ext E0).trans C1
  have q0 : w1.cell? ⟨w.heap.size, 0, none⟩ = some (.int .i64 0) := C1.cell (.inr (by omega)) (by simp)
  have q1 : w1.cell? ⟨w.heap.size, 1, none⟩ = some (.slice none 0 0) := C1.cell (.inr (by omega)) (by simp)
  have q2 : w1.cell? ⟨w.heap.size, 2, none⟩ = some (.slice none 0 0) := C1.cell (.inr (by omega)) (by simp)
  have f0 : w1.frozen? ⟨w.heap.size, 0, none⟩ = false := C1.frzO (.inr (by omega)) (by simp) (by simp)
  have f1 : w1.frozen? ⟨w.heap.size, 1, none⟩ = false := C1.frzO (.inr (by omega)) (by simp) (by simp)
  have f2 : w1.frozen? ⟨w.heap.size, 2, none⟩ = false := C1.frzO (.inr (by omega)) (by simp) (by simp)
  have z1 : w.heap.size < w1.heap.size := World.block_lt_of_cell? _ _ q0
  clear C1 E0 hr
  go_wp2_with fail
  refine (someView_c _ _ _ hr1 (by omega)).mono ?_
  rintro e w2 ⟨b, s, t, p1, p2, n1, r1, n2, r2, rfl, i1, i2, l1, l2, hr2, C⟩
  have X2 : Chg rb (rb + 1) w w2 := X1.trans C
  replace i0 := i0.chg C (by omega)
  replace q0 := C.cell (.inr (by omega)) q0
  replace q1 := C.cell (.inr (by omega)) q1
  replace q2 := C.cell (.inr (by omega)) q2
  replace f0 := C.frzO (.inr (by omega)) (by omega) f0
  replace f1 := C.frzO (.inr (by omega)) (by omega) f1
  replace f2 := C.frzO (.inr (by omega)) (by omega) f2
  have z2 : w.heap.size < w2.heap.size := World.block_lt_of_cell? _ _ q0
  have z12 := C.size
  clear C X1 hr1
  go_wp2_with fail
  refine bodyPost_ret (v := .tuple #[.slice p0 n0 r0, .agg #[.int .i64 b, .slice p1 n1 r1, .slice p2 n2 r2]]) (by simp only [results, Try.results81]; go_simp) rfl ?_
  have K := Chg.three (lo := w.heap.size) w2 (.int .i64 b) (.slice p1 n1 r1) (.slice p2 n2 r2)
  replace i1 := i1.chg K (by omega)
  replace i2 := i2.chg K (by omega)
  exact ⟨⟨mem, p0, n0, r0, b, s, t, p1, p2, n1, r1, n2, r2, rfl, hml, (i0.chg K (by omega)).lower (by omega), i1.lower (by omega), i2.lower (by omega), l1, l2⟩, (Rd.set2 (by simp; omega) (Rd.set2 (by simp; omega) (Rd.set2 (by simp; omega) hr2))).mono (by omega), Rch.set (Rch.set (Rch.set X2 (by simp) _) (by simp) _) (by simp) _⟩
def PMemView (w : World) (e : Ending) (w' : World) : Prop := PMV w.heap.size e w' ∧ Ext w w'

set_option maxHeartbeats 3200000 in
theorem drawLoadView_c (a : Option Addr) (n cap : Nat) (w : World) (hb : BysIn w a n cap) :
    Calls Try.prog 33 #[.slice a n cap] w (PMemView w) := by
  go_enter Try.func33, Try.ntmps33
  go_wp2_with fail
  refine (newReader_c a n cap _ (hb.ext (by repeat (first | (with_reducible assumption) | (with_reducible refine Ext.setCell ?_ (by first | (simp; done) | (simp; omega) | omega) _) | (with_reducible apply Ext.alloc) | (with_reducible apply Ext.drew) | (with_reducible apply Ext.drewN) | (with_reducible exact Ext.refl _))))).mono ?_
  rintro e w1 ⟨rfl, hr, x1⟩
  simp only [World.size_alloc] at hr
  have X1 : Ext w w1 := Ext.trans (by repeat (first | (with_reducible assumption) | (with_reducible refine Ext.setCell ?_ (by first | (simp; done) | (simp; omega) | omega) _) | (with_reducible apply Ext.alloc) | (with_reducible apply Ext.drew) | (with_reducible apply Ext.drewN) | (with_reducible exact Ext.refl _))) x1
  have q0 : w1.cell? ⟨w.heap.size, 0, none⟩ = some (.int .i64 0) := x1.cell (by simp)
  have q1 : w1.cell? ⟨w.heap.size, 1, none⟩ = some (.slice none 0 0) := x1.cell (by simp)
  have q2 : w1.cell? ⟨w.heap.size, 2, none⟩ = some (.slice none 0 0) := x1.cell (by simp)
  have f0 : w1.frozen? ⟨w.heap.size, 0, none⟩ = false := x1.frz (by simp) (by simp)
  have f1 : w1.frozen? ⟨w.heap.size, 1, none⟩ = false := x1.frz (by simp) (by simp)
  have f2 : w1.frozen? ⟨w.heap.size, 2, none⟩ = false := x1.frz (by simp) (by simp)
  have z1 := hr.lt
  clear hb x1
  go_wp2_with fail
  refine (memView_c _ 0 _ hr (by omega)).mono ?_
  rintro e w2 ⟨⟨mem, p0, n0, r0, b, s, t, p1, p2, n1, r1, n2, r2, rfl, hml, i0, i1, i2, l1, l2⟩, hr2, C⟩
  have X2 : Ext w w2 := Rch.toExt' C (by omega) X1
  replace q0 := C.cell (.inl (by omega)) q0
  replace q1 := C.cell (.inl (by omega)) q1
  replace q2 := C.cell (.inl (by omega)) q2
  replace f0 := C.frzO (.inl (by omega)) (by omega) f0
  replace f1 := C.frzO (.inl (by omega)) (by omega) f1
  replace f2 := C.frzO (.inl (by omega)) (by omega) f2
  have z2 : w.heap.size < w2.heap.size := World.block_lt_of_cell? _ _ q0
  clear C X1 hr
  go_wp2_with fail
  refine bodyPost_ret (v := .tuple #[.slice p0 n0 r0, .agg #[.int .i64 b, .slice p1 n1 r1, .slice p2 n2 r2]]) (by simp only [results, Try.results33]; go_simp) rfl ?_
  have K := Chg.three (lo := w.heap.size) w2 (.int .i64 b) (.slice p1 n1 r1) (.slice p2 n2 r2)
  replace i0 := i0.chg K (by omega)
  replace i1 := i1.chg K (by omega)
  replace i2 := i2.chg K (by omega)
  have X9 : Ext w (((w2.setCell ⟨w.heap.size, 0, none⟩ (.int .i64 b)).setCell ⟨w.heap.size, 1, none⟩ (.slice p1 n1 r1)).setCell ⟨w.heap.size, 2, none⟩ (.slice p2 n2 r2)) := Ext.chg (lo := w.heap.size) (hi := w.heap.size + 1) X2 K (Nat.le_refl _)
  exact ⟨⟨mem, p0, n0, r0, b, s, t, p1, p2, n1, r1, n2, r2, rfl, hml, i0.lower (by omega), i1.lower (by omega), i2.lower (by omega), l1, l2⟩, X9⟩

set_option maxHeartbeats 3200000 in
theorem drawSumView_c (a : Option Addr) (n cap : Nat) (w : World) (hb : BysIn w a n cap) :
    Calls Try.prog 48 #[.slice a n cap] w (PMemView w) := by
  go_enter Try.func48, Try.ntmps48
  go_wp2_with fail
  refine (newReader_c a n cap _ (hb.ext (by repeat (first | (with_reducible assumption) | (with_reducible refine Ext.setCell ?_ (by first | (simp; done) | (simp; omega) | omega) _) | (with_reducible apply Ext.alloc) | (with_reducible apply Ext.drew) | (with_reducible apply Ext.drewN) | (with_reducible exact Ext.refl _))))).mono ?_
  rintro e w1 ⟨rfl, hr, x1⟩
  simp only [World.size_alloc] at hr
  have X1 : Ext w w1 := Ext.trans (by repeat (first | (with_reducible assumption) | (with_reducible refine Ext.setCell ?_ (by first | (simp; done) | (simp; omega) | omega) _) | (with_reducible apply Ext.alloc) | (with_reducible apply Ext.drew) | (with_reducible apply Ext.drewN) | (with_reducible exact Ext.refl _))) x1
  have q0 : w1.cell? ⟨w.heap.size, 0, none⟩ = some (.int .i64 0) := x1.cell (by simp)
  have q1 : w1.cell? ⟨w.heap.size, 1, none⟩ = some (.slice none 0 0) := x1.cell (by simp)
  have q2 : w1.cell? ⟨w.heap.size, 2, none⟩ = some (.slice none 0 0) := x1.cell (by simp)
  have f0 : w1.frozen? ⟨w.heap.size, 0, none⟩ = false := x1.frz (by simp) (by simp)
  have f1 : w1.frozen? ⟨w.heap.size, 1, none⟩ = false := x1.frz (by simp) (by simp)
  have f2 : w1.frozen? ⟨w.heap.size, 2, none⟩ = false := x1.frz (by simp) (by simp)
  have z1 := hr.lt
  clear hb x1
  go_wp2_with fail
  refine (memView_c _ 0 _ hr (by omega)).mono ?_
  rintro e w2 ⟨⟨mem, p0, n0, r0, b, s, t, p1, p2, n1, r1, n2, r2, rfl, hml, i0, i1, i2, l1, l2⟩, hr2, C⟩
  have X2 : Ext w w2 := Rch.toExt' C (by omega) X1
  replace q0 := C.cell (.inl (by omega)) q0
  replace q1 := C.cell (.inl (by omega)) q1
  replace q2 := C.cell (.inl (by omega)) q2
  replace f0 := C.frzO (.inl (by omega)) (by omega) f0
  replace f1 := C.frzO (.inl (by omega)) (by omega) f1
  replace f2 := C.frzO (.inl (by omega)) (by omega) f2
  have z2 : w.heap.size < w2.heap.size := World.block_lt_of_cell? _ _ q0
  clear C X1 hr
  go_wp2_with fail
  refine bodyPost_ret (v := .tuple #[.slice p0 n0 r0, .agg #[.int .i64 b, .slice p1 n1 r1, .slice p2 n2 r2]]) (by simp only [results, Try.results48]; go_simp) rfl ?_
  have K := Chg.three (lo := w.heap.size) w2 (.int .i64 b) (.slice p1 n1 r1) (.slice p2 n2 r2)
  replace i0 := i0.chg K (by omega)
  replace i1 := i1.chg K (by omega)
  replace i2 := i2.chg K (by omega)
  have X9 : Ext w (((w2.setCell ⟨w.heap.size, 0, none⟩ (.int .i64 b)).setCell ⟨w.heap.size, 1, none⟩ (.slice p1 n1 r1)).setCell ⟨w.heap.size, 2, none⟩ (.slice p2 n2 r2)) := Ext.chg (lo := w.heap.size) (hi := w.heap.size + 1) X2 K (Nat.le_refl _)
  exact ⟨⟨mem, p0, n0, r0, b, s, t, p1, p2, n1, r1, n2, r2, rfl, hml, i0.lower (by omega), i1.lower (by omega), i2.lower (by omega), l1, l2⟩, X9⟩

end Go.Proofs.Ytnjaidgifccgjaa

/- Walks: ValidView, FitsIn, BoundsOf. -/
namespace Go.Proofs.Ytnjaidgifccgjaa
open Go.RowKit
set_option linter.unusedVariables false
set_option maxRecDepth 100000


theorem areCells_c (x : Int) (w : World) : Calls Try.prog 60 #[.int .i64 x] w fun e w' => e = .returned (.bool (inB 0 60 x)) ∧ w = w' := by
  by_cases h : 0 ≤ x
  · go_enter Try.func60, Try.ntmps60
    go_wp2_with fail
    go_ret
    exact ⟨by simp [inB, h], rfl⟩
  · have h' : x < 0 := by omega
    go_enter Try.func60, Try.ntmps60
    go_wp2_with fail
    go_ret
    exact ⟨by simp [inB]; intro; omega, rfl⟩
theorem min_lib (l : List Int) : Lib.minOf l = minL l := by cases l <;> rfl
theorem max_lib (l : List Int) : Lib.maxOf l = maxL l := by cases l <;> rfl
theorem min_c (xs : List Int) (v : Value) (w : World) (lo : Nat) (h : Ints w lo v xs) (hn : xs ≠ []) : Calls Try.prog 67 #[v] w fun e w' => e = .returned (.int .i64 (minL xs)) ∧ w = w' := by
  obtain ⟨a, cap, rfl, h1, h2, ⟨h3, h3'⟩, h4⟩ := h
  have hpos : 0 < xs.length := by cases xs <;> simp_all
  obtain ⟨b, off, rfl, _⟩ := h4 0 hpos
  refine (Try.slices_Min_int b off xs.length cap xs w hpos (Nat.le_refl _) (by omega) (fun j hj => by obtain ⟨b', off', he, _, hc, _⟩ := h4 j hj; cases he; exact hc)).mono ?_
  rintro e w' ⟨rfl, rfl⟩
  exact ⟨by rw [List.take_length, min_lib], rfl⟩
theorem max_c (xs : List Int) (v : Value) (w : World) (lo : Nat) (h : Ints w lo v xs) (hn : xs ≠ []) : Calls Try.prog 68 #[v] w fun e w' => e = .returned (.int .i64 (maxL xs)) ∧ w = w' := by
  obtain ⟨a, cap, rfl, h1, h2, ⟨h3, h3'⟩, h4⟩ := h
  have hpos : 0 < xs.length := by cases xs <;> simp_all
  obtain ⟨b, off, rfl, _⟩ := h4 0 hpos
  refine (Try.slices_Max_int b off xs.length cap xs w hpos (Nat.le_refl _) (by omega) (fun j hj => by obtain ⟨b', off', he, _, hc, _⟩ := h4 j hj; cases he; exact hc)).mono ?_
  rintro e w' ⟨rfl, rfl⟩
  exact ⟨by rw [List.take_length, max_lib], rfl⟩
def fitA (b : Int) (s t : List Int) (x : Int) : Bool := viewB b s t && (inB 0 60 x && fitB b s t x)
set_option maxHeartbeats 1600000 in
theorem implValidView_c (b1 : Int) (u1 v1 : Value) (s1 t1 : List Int) (w : World) (l1 m1 : Nat) (h1 : Ints w l1 u1 s1) (k1 : Ints w m1 v1 t1) :
    Calls Try.prog 16 #[.agg #[.int .i64 b1, u1, v1]] w (fun e w' => e = .returned (.bool (viewB b1 s1 t1)) ∧ Ext w w') := by
  obtain ⟨a1, cp1, rfl⟩ := h1.form
  obtain ⟨a2, cp2, rfl⟩ := k1.form
  go_enter Try.func16, Try.ntmps16
  go_wp2_with fail
  refine (isView_c b1 _ _ s1 t1 _ l1 m1 (h1.ext (by repeat (first | (with_reducible assumption) | (with_reducible refine Ext.setCell ?_ (by first | (simp; done) | (simp; omega) | omega) _) | (with_reducible apply Ext.alloc) | (with_reducible apply Ext.drew) | (with_reducible apply Ext.drewN) | (with_reducible exact Ext.refl _)))) (k1.ext (by repeat (first | (with_reducible assumption) | (with_reducible refine Ext.setCell ?_ (by first | (simp; done) | (simp; omega) | omega) _) | (with_reducible apply Ext.alloc) | (with_reducible apply Ext.drew) | (with_reducible apply Ext.drewN) | (with_reducible exact Ext.refl _))))).mono ?_
  rintro e w1 ⟨rfl, xw1⟩
  have Lw1 : Ext w w1 := Ext.trans (by repeat (first | (with_reducible assumption) | (with_reducible refine Ext.setCell ?_ (by first | (simp; done) | (simp; omega) | omega) _) | (with_reducible apply Ext.alloc) | (with_reducible apply Ext.drew) | (with_reducible apply Ext.drewN) | (with_reducible exact Ext.refl _))) xw1
  have Xw1 : Ext w w1 := Lw1
  have va0 : w1.cell? ⟨w.heap.size, 0, none⟩ = some (.int .i64 b1) := xw1.cell (by first | (simp; done) | ((repeat rw [World.cell?_alloc_lt _ _ _ (by simp <;> omega)]); simp; done) | (go_simp; done))
  have va1 : w1.cell? ⟨w.heap.size, 1, none⟩ = some (.slice a1 s1.length cp1) := xw1.cell (by first | (simp; done) | ((repeat rw [World.cell?_alloc_lt _ _ _ (by simp <;> omega)]); simp; done) | (go_simp; done))
  have va2 : w1.cell? ⟨w.heap.size, 2, none⟩ = some (.slice a2 t1.length cp2) := xw1.cell (by first | (simp; done) | ((repeat rw [World.cell?_alloc_lt _ _ _ (by simp <;> omega)]); simp; done) | (go_simp; done))
  have z_va : w.heap.size < w1.heap.size := World.block_lt_of_cell? _ _ va0
  have s_w1 : w.heap.size ≤ w1.heap.size := Xw1.size
  clear xw1
  go_wp2_with fail
  go_ret
  exact ⟨rfl, Xw1.trans (by repeat (first | (with_reducible assumption) | (with_reducible refine Ext.setCell ?_ (by first | (simp; done) | (simp; omega) | omega) _) | (with_reducible apply Ext.alloc) | (with_reducible apply Ext.drew) | (with_reducible apply Ext.drewN) | (with_reducible exact Ext.refl _)))⟩

set_option maxHeartbeats 1600000 in
theorem implFitsIn_c (b1 : Int) (u1 v1 : Value) (s1 t1 : List Int) (x : Int) (w : World) (l1 m1 : Nat) (h1 : Ints w l1 u1 s1) (k1 : Ints w m1 v1 t1) :
    Calls Try.prog 14 #[.agg #[.int .i64 b1, u1, v1], .int .i64 x] w (fun e w' => e = .returned (.bool (fitA b1 s1 t1 x)) ∧ Ext w w') := by
  obtain ⟨a1, cp1, rfl⟩ := h1.form
  obtain ⟨a2, cp2, rfl⟩ := k1.form
  cases ha : viewB b1 s1 t1
  · have hr : Hid (fitA b1 s1 t1 x = false) := Lib.hid (by unfold fitA; rw [ha]; rfl)
    replace ha := Lib.hid ha
    go_enter Try.func14, Try.ntmps14
    go_wp2_with fail
    refine (isView_c b1 _ _ s1 t1 _ l1 m1 (h1.ext (by repeat (first | (with_reducible assumption) | (with_reducible refine Ext.setCell ?_ (by first | (simp; done) | (simp; omega) | omega) _) | (with_reducible apply Ext.alloc) | (with_reducible apply Ext.drew) | (with_reducible apply Ext.drewN) | (with_reducible exact Ext.refl _)))) (k1.ext (by repeat (first | (with_reducible assumption) | (with_reducible refine Ext.setCell ?_ (by first | (simp; done) | (simp; omega) | omega) _) | (with_reducible apply Ext.alloc) | (with_reducible apply Ext.drew) | (with_reducible apply Ext.drewN) | (with_reducible exact Ext.refl _))))).mono ?_
    rintro e w1 ⟨rfl, xw1⟩
    have Lw1 : Ext w w1 := Ext.trans (by repeat (first | (with_reducible assumption) | (with_reducible refine Ext.setCell ?_ (by first | (simp; done) | (simp; omega) | omega) _) | (with_reducible apply Ext.alloc) | (with_reducible apply Ext.drew) | (with_reducible apply Ext.drewN) | (with_reducible exact Ext.refl _))) xw1
    have Xw1 : Ext w w1 := Lw1
    have va0 : w1.cell? ⟨w.heap.size, 0, none⟩ = some (.int .i64 b1) := xw1.cell (by first | (simp; done) | ((repeat rw [World.cell?_alloc_lt _ _ _ (by simp <;> omega)]); simp; done) | (go_simp; done))
    have va1 : w1.cell? ⟨w.heap.size, 1, none⟩ = some (.slice a1 s1.length cp1) := xw1.cell (by first | (simp; done) | ((repeat rw [World.cell?_alloc_lt _ _ _ (by simp <;> omega)]); simp; done) | (go_simp; done))
    have va2 : w1.cell? ⟨w.heap.size, 2, none⟩ = some (.slice a2 t1.length cp2) := xw1.cell (by first | (simp; done) | ((repeat rw [World.cell?_alloc_lt _ _ _ (by simp <;> omega)]); simp; done) | (go_simp; done))
    have z_va : w.heap.size < w1.heap.size := World.block_lt_of_cell? _ _ va0
    have s_w1 : w.heap.size ≤ w1.heap.size := Xw1.size
    clear xw1
    rw [ha.out]
    go_wp2_with fail
    go_ret
    exact ⟨by rw [hr.out] <;> rfl, Xw1.trans (by repeat (first | (with_reducible assumption) | (with_reducible refine Ext.setCell ?_ (by first | (simp; done) | (simp; omega) | omega) _) | (with_reducible apply Ext.alloc) | (with_reducible apply Ext.drew) | (with_reducible apply Ext.drewN) | (with_reducible exact Ext.refl _)))⟩
  · cases hb : inB 0 60 x
    · have hr : Hid (fitA b1 s1 t1 x = false) := Lib.hid (by unfold fitA; rw [ha, hb]; rfl)
      replace ha := Lib.hid ha
      replace hb := Lib.hid hb
      go_enter Try.func14, Try.ntmps14
      go_wp2_with fail
      refine (isView_c b1 _ _ s1 t1 _ l1 m1 (h1.ext (by repeat (first | (with_reducible assumption) | (with_reducible refine Ext.setCell ?_ (by first | (simp; done) | (simp; omega) | omega) _) | (with_reducible apply Ext.alloc) | (with_reducible apply Ext.drew) | (with_reducible apply Ext.drewN) | (with_reducible exact Ext.refl _)))) (k1.ext (by repeat (first | (with_reducible assumption) | (with_reducible refine Ext.setCell ?_ (by first | (simp; done) | (simp; omega) | omega) _) | (with_reducible apply Ext.alloc) | (with_reducible apply Ext.drew) | (with_reducible apply Ext.drewN) | (with_reducible exact Ext.refl _))))).mono ?_
      rintro e w1 ⟨rfl, xw1⟩
      have Lw1 : Ext w w1 := Ext.trans (by repeat (first | (with_reducible assumption) | (with_reducible refine Ext.setCell ?_ (by first | (simp; done) | (simp; omega) | omega) _) | (with_reducible apply Ext.alloc) | (with_reducible apply Ext.drew) | (with_reducible apply Ext.drewN) | (with_reducible exact Ext.refl _))) xw1
      have Xw1 : Ext w w1 := Lw1
      have va0 : w1.cell? ⟨w.heap.size, 0, none⟩ = some (.int .i64 b1) := xw1.cell (by first | (simp; done) | ((repeat rw [World.cell?_alloc_lt _ _ _ (by simp <;> omega)]); simp; done) | (go_simp; done))
      have va1 : w1.cell? ⟨w.heap.size, 1, none⟩ = some (.slice a1 s1.length cp1) := xw1.cell (by first | (simp; done) | ((repeat rw [World.cell?_alloc_lt _ _ _ (by simp <;> omega)]); simp; done) | (go_simp; done))
      have va2 : w1.cell? ⟨w.heap.size, 2, none⟩ = some (.slice a2 t1.length cp2) := xw1.cell (by first | (simp; done) | ((repeat rw [World.cell?_alloc_lt _ _ _ (by simp <;> omega)]); simp; done) | (go_simp; done))
      have z_va : w.heap.size < w1.heap.size := World.block_lt_of_cell? _ _ va0
      have s_w1 : w.heap.size ≤ w1.heap.size := Xw1.size
      clear xw1
      rw [ha.out]
      go_wp2_with fail
      refine (areCells_c x _).mono ?_
      rintro e w' ⟨rfl, rfl⟩
      rw [hb.out]
      go_wp2_with fail
      go_ret
      exact ⟨by rw [hr.out] <;> rfl, Xw1.trans (by repeat (first | (with_reducible assumption) | (with_reducible refine Ext.setCell ?_ (by first | (simp; done) | (simp; omega) | omega) _) | (with_reducible apply Ext.alloc) | (with_reducible apply Ext.drew) | (with_reducible apply Ext.drewN) | (with_reducible exact Ext.refl _)))⟩
    · have hr : Hid (fitA b1 s1 t1 x = fitB b1 s1 t1 x) := Lib.hid (by unfold fitA; rw [ha, hb]; rfl)
      have hx : 0 ≤ x ∧ x ≤ 60 := by unfold inB at hb; exact of_decide_eq_true hb
      replace ha := Lib.hid ha
      replace hb := Lib.hid hb
      go_enter Try.func14, Try.ntmps14
      go_wp2_with fail
      refine (isView_c b1 _ _ s1 t1 _ l1 m1 (h1.ext (by repeat (first | (with_reducible assumption) | (with_reducible refine Ext.setCell ?_ (by first | (simp; done) | (simp; omega) | omega) _) | (with_reducible apply Ext.alloc) | (with_reducible apply Ext.drew) | (with_reducible apply Ext.drewN) | (with_reducible exact Ext.refl _)))) (k1.ext (by repeat (first | (with_reducible assumption) | (with_reducible refine Ext.setCell ?_ (by first | (simp; done) | (simp; omega) | omega) _) | (with_reducible apply Ext.alloc) | (with_reducible apply Ext.drew) | (with_reducible apply Ext.drewN) | (with_reducible exact Ext.refl _))))).mono ?_
      rintro e w1 ⟨rfl, xw1⟩
      have Lw1 : Ext w w1 := Ext.trans (by repeat (first | (with_reducible assumption) | (with_reducible refine Ext.setCell ?_ (by first | (simp; done) | (simp; omega) | omega) _) | (with_reducible apply Ext.alloc) | (with_reducible apply Ext.drew) | (with_reducible apply Ext.drewN) | (with_reducible exact Ext.refl _))) xw1
      have Xw1 : Ext w w1 := Lw1
      have va0 : w1.cell? ⟨w.heap.size, 0, none⟩ = some (.int .i64 b1) := xw1.cell (by first | (simp; done) | ((repeat rw [World.cell?_alloc_lt _ _ _ (by simp <;> omega)]); simp; done) | (go_simp; done))
      have va1 : w1.cell? ⟨w.heap.size, 1, none⟩ = some (.slice a1 s1.length cp1) := xw1.cell (by first | (simp; done) | ((repeat rw [World.cell?_alloc_lt _ _ _ (by simp <;> omega)]); simp; done) | (go_simp; done))
      have va2 : w1.cell? ⟨w.heap.size, 2, none⟩ = some (.slice a2 t1.length cp2) := xw1.cell (by first | (simp; done) | ((repeat rw [World.cell?_alloc_lt _ _ _ (by simp <;> omega)]); simp; done) | (go_simp; done))
      have z_va : w.heap.size < w1.heap.size := World.block_lt_of_cell? _ _ va0
      have s_w1 : w.heap.size ≤ w1.heap.size := Xw1.size
      clear xw1
      rw [ha.out]
      go_wp2_with fail
      refine (areCells_c x _).mono ?_
      rintro e w' ⟨rfl, rfl⟩
      rw [hb.out]
      go_wp2_with fail
      refine (fitsIn_c b1 _ _ s1 t1 x _ l1 m1 (h1.ext (Xw1.trans (by repeat (first | (with_reducible assumption) | (with_reducible refine Ext.setCell ?_ (by first | (simp; done) | (simp; omega) | omega) _) | (with_reducible apply Ext.alloc) | (with_reducible apply Ext.drew) | (with_reducible apply Ext.drewN) | (with_reducible exact Ext.refl _))))) (k1.ext (Xw1.trans (by repeat (first | (with_reducible assumption) | (with_reducible refine Ext.setCell ?_ (by first | (simp; done) | (simp; omega) | omega) _) | (with_reducible apply Ext.alloc) | (with_reducible apply Ext.drew) | (with_reducible apply Ext.drewN) | (with_reducible exact Ext.refl _))))) ha.out).mono ?_
      rintro e w2 ⟨rfl, xw2⟩
      have Lw2 : Ext w1 w2 := Ext.trans (by repeat (first | (with_reducible assumption) | (with_reducible refine Ext.setCell ?_ (by first | (simp; done) | (simp; omega) | omega) _) | (with_reducible apply Ext.alloc) | (with_reducible apply Ext.drew) | (with_reducible apply Ext.drewN) | (with_reducible exact Ext.refl _))) xw2
      have Xw2 : Ext w w2 := Xw1.trans Lw2
      replace va0 := Lw2.cell va0
      replace va1 := Lw2.cell va1
      replace va2 := Lw2.cell va2
      have z_va : w.heap.size < w2.heap.size := World.block_lt_of_cell? _ _ va0
      have s_w2 : w.heap.size ≤ w2.heap.size := Xw2.size
      clear xw2
      go_wp2_with fail
      go_ret
      exact ⟨by rw [hr.out] <;> rfl, Xw2.trans (by repeat (first | (with_reducible assumption) | (with_reducible refine Ext.setCell ?_ (by first | (simp; done) | (simp; omega) | omega) _) | (with_reducible apply Ext.alloc) | (with_reducible apply Ext.drew) | (with_reducible apply Ext.drewN) | (with_reducible exact Ext.refl _)))⟩

set_option maxHeartbeats 1600000 in
theorem specFitsIn_c (b1 : Int) (u1 v1 : Value) (s1 t1 : List Int) (x : Int) (w : World) (l1 m1 : Nat) (h1 : Ints w l1 u1 s1) (k1 : Ints w m1 v1 t1) :
    Calls Try.prog 15 #[.agg #[.int .i64 b1, u1, v1], .int .i64 x] w (fun e w' => e = .returned (.bool (fitA b1 s1 t1 x)) ∧ Ext w w') := by
  obtain ⟨a1, cp1, rfl⟩ := h1.form
  obtain ⟨a2, cp2, rfl⟩ := k1.form
  cases ha : viewB b1 s1 t1
  · have hr : Hid (fitA b1 s1 t1 x = false) := Lib.hid (by unfold fitA; rw [ha]; rfl)
    replace ha := Lib.hid ha
    go_enter Try.func15, Try.ntmps15
    go_wp2_with fail
    refine (validView_c b1 _ _ s1 t1 _ l1 m1 (h1.ext (by repeat (first | (with_reducible assumption) | (with_reducible refine Ext.setCell ?_ (by first | (simp; done) | (simp; omega) | omega) _) | (with_reducible apply Ext.alloc) | (with_reducible apply Ext.drew) | (with_reducible apply Ext.drewN) | (with_reducible exact Ext.refl _)))) (k1.ext (by repeat (first | (with_reducible assumption) | (with_reducible refine Ext.setCell ?_ (by first | (simp; done) | (simp; omega) | omega) _) | (with_reducible apply Ext.alloc) | (with_reducible apply Ext.drew) | (with_reducible apply Ext.drewN) | (with_reducible exact Ext.refl _))))).mono ?_
    rintro e w1 ⟨rfl, xw1⟩
    have Lw1 : Ext w w1 := Ext.trans (by repeat (first | (with_reducible assumption) | (with_reducible refine Ext.setCell ?_ (by first | (simp; done) | (simp; omega) | omega) _) | (with_reducible apply Ext.alloc) | (with_reducible apply Ext.drew) | (with_reducible apply Ext.drewN) | (with_reducible exact Ext.refl _))) xw1
    have Xw1 : Ext w w1 := Lw1
    have va0 : w1.cell? ⟨w.heap.size, 0, none⟩ = some (.int .i64 b1) := xw1.cell (by first | (simp; done) | ((repeat rw [World.cell?_alloc_lt _ _ _ (by simp <;> omega)]); simp; done) | (go_simp; done))
    have va1 : w1.cell? ⟨w.heap.size, 1, none⟩ = some (.slice a1 s1.length cp1) := xw1.cell (by first | (simp; done) | ((repeat rw [World.cell?_alloc_lt _ _ _ (by simp <;> omega)]); simp; done) | (go_simp; done))
    have va2 : w1.cell? ⟨w.heap.size, 2, none⟩ = some (.slice a2 t1.length cp2) := xw1.cell (by first | (simp; done) | ((repeat rw [World.cell?_alloc_lt _ _ _ (by simp <;> omega)]); simp; done) | (go_simp; done))
    have z_va : w.heap.size < w1.heap.size := World.block_lt_of_cell? _ _ va0
    have s_w1 : w.heap.size ≤ w1.heap.size := Xw1.size
    clear xw1
    rw [ha.out]
    go_wp2_with fail
    go_ret
    exact ⟨by rw [hr.out] <;> rfl, Xw1.trans (by repeat (first | (with_reducible assumption) | (with_reducible refine Ext.setCell ?_ (by first | (simp; done) | (simp; omega) | omega) _) | (with_reducible apply Ext.alloc) | (with_reducible apply Ext.drew) | (with_reducible apply Ext.drewN) | (with_reducible exact Ext.refl _)))⟩
  · cases hb : inB 0 60 x
    · have hr : Hid (fitA b1 s1 t1 x = false) := Lib.hid (by unfold fitA; rw [ha, hb]; rfl)
      replace ha := Lib.hid ha
      replace hb := Lib.hid hb
      go_enter Try.func15, Try.ntmps15
      go_wp2_with fail
      refine (validView_c b1 _ _ s1 t1 _ l1 m1 (h1.ext (by repeat (first | (with_reducible assumption) | (with_reducible refine Ext.setCell ?_ (by first | (simp; done) | (simp; omega) | omega) _) | (with_reducible apply Ext.alloc) | (with_reducible apply Ext.drew) | (with_reducible apply Ext.drewN) | (with_reducible exact Ext.refl _)))) (k1.ext (by repeat (first | (with_reducible assumption) | (with_reducible refine Ext.setCell ?_ (by first | (simp; done) | (simp; omega) | omega) _) | (with_reducible apply Ext.alloc) | (with_reducible apply Ext.drew) | (with_reducible apply Ext.drewN) | (with_reducible exact Ext.refl _))))).mono ?_
      rintro e w1 ⟨rfl, xw1⟩
      have Lw1 : Ext w w1 := Ext.trans (by repeat (first | (with_reducible assumption) | (with_reducible refine Ext.setCell ?_ (by first | (simp; done) | (simp; omega) | omega) _) | (with_reducible apply Ext.alloc) | (with_reducible apply Ext.drew) | (with_reducible apply Ext.drewN) | (with_reducible exact Ext.refl _))) xw1
      have Xw1 : Ext w w1 := Lw1
      have va0 : w1.cell? ⟨w.heap.size, 0, none⟩ = some (.int .i64 b1) := xw1.cell (by first | (simp; done) | ((repeat rw [World.cell?_alloc_lt _ _ _ (by simp <;> omega)]); simp; done) | (go_simp; done))
      have va1 : w1.cell? ⟨w.heap.size, 1, none⟩ = some (.slice a1 s1.length cp1) := xw1.cell (by first | (simp; done) | ((repeat rw [World.cell?_alloc_lt _ _ _ (by simp <;> omega)]); simp; done) | (go_simp; done))
      have va2 : w1.cell? ⟨w.heap.size, 2, none⟩ = some (.slice a2 t1.length cp2) := xw1.cell (by first | (simp; done) | ((repeat rw [World.cell?_alloc_lt _ _ _ (by simp <;> omega)]); simp; done) | (go_simp; done))
      have z_va : w.heap.size < w1.heap.size := World.block_lt_of_cell? _ _ va0
      have s_w1 : w.heap.size ≤ w1.heap.size := Xw1.size
      clear xw1
      rw [ha.out]
      go_wp2_with fail
      refine (inRange_c x 0 60 _).mono ?_
      rintro e w' ⟨rfl, rfl⟩
      rw [hb.out]
      go_wp2_with fail
      go_ret
      exact ⟨by rw [hr.out] <;> rfl, Xw1.trans (by repeat (first | (with_reducible assumption) | (with_reducible refine Ext.setCell ?_ (by first | (simp; done) | (simp; omega) | omega) _) | (with_reducible apply Ext.alloc) | (with_reducible apply Ext.drew) | (with_reducible apply Ext.drewN) | (with_reducible exact Ext.refl _)))⟩
    · have hr : Hid (fitA b1 s1 t1 x = fitB b1 s1 t1 x) := Lib.hid (by unfold fitA; rw [ha, hb]; rfl)
      have hx : 0 ≤ x ∧ x ≤ 60 := by unfold inB at hb; exact of_decide_eq_true hb
      replace ha := Lib.hid ha
      replace hb := Lib.hid hb
      go_enter Try.func15, Try.ntmps15
      go_wp2_with fail
      refine (validView_c b1 _ _ s1 t1 _ l1 m1 (h1.ext (by repeat (first | (with_reducible assumption) | (with_reducible refine Ext.setCell ?_ (by first | (simp; done) | (simp; omega) | omega) _) | (with_reducible apply Ext.alloc) | (with_reducible apply Ext.drew) | (with_reducible apply Ext.drewN) | (with_reducible exact Ext.refl _)))) (k1.ext (by repeat (first | (with_reducible assumption) | (with_reducible refine Ext.setCell ?_ (by first | (simp; done) | (simp; omega) | omega) _) | (with_reducible apply Ext.alloc) | (with_reducible apply Ext.drew) | (with_reducible apply Ext.drewN) | (with_reducible exact Ext.refl _))))).mono ?_
      rintro e w1 ⟨rfl, xw1⟩
      have Lw1 : Ext w w1 := Ext.trans (by repeat (first | (with_reducible assumption) | (with_reducible refine Ext.setCell ?_ (by first | (simp; done) | (simp; omega) | omega) _) | (with_reducible apply Ext.alloc) | (with_reducible apply Ext.drew) | (with_reducible apply Ext.drewN) | (with_reducible exact Ext.refl _))) xw1
      have Xw1 : Ext w w1 := Lw1
      have va0 : w1.cell? ⟨w.heap.size, 0, none⟩ = some (.int .i64 b1) := xw1.cell (by first | (simp; done) | ((repeat rw [World.cell?_alloc_lt _ _ _ (by simp <;> omega)]); simp; done) | (go_simp; done))
      have va1 : w1.cell? ⟨w.heap.size, 1, none⟩ = some (.slice a1 s1.length cp1) := xw1.cell (by first | (simp; done) | ((repeat rw [World.cell?_alloc_lt _ _ _ (by simp <;> omega)]); simp; done) | (go_simp; done))
      have va2 : w1.cell? ⟨w.heap.size, 2, none⟩ = some (.slice a2 t1.length cp2) := xw1.cell (by first | (simp; done) | ((repeat rw [World.cell?_alloc_lt _ _ _ (by simp <;> omega)]); simp; done) | (go_simp; done))
      have z_va : w.heap.size < w1.heap.size := World.block_lt_of_cell? _ _ va0
      have s_w1 : w.heap.size ≤ w1.heap.size := Xw1.size
      clear xw1
      rw [ha.out]
      go_wp2_with fail
      refine (inRange_c x 0 60 _).mono ?_
      rintro e w' ⟨rfl, rfl⟩
      rw [hb.out]
      go_wp2_with fail
      refine (fits_c b1 _ _ s1 t1 x _ l1 m1 (h1.ext (Xw1.trans (by repeat (first | (with_reducible assumption) | (with_reducible refine Ext.setCell ?_ (by first | (simp; done) | (simp; omega) | omega) _) | (with_reducible apply Ext.alloc) | (with_reducible apply Ext.drew) | (with_reducible apply Ext.drewN) | (with_reducible exact Ext.refl _))))) (k1.ext (Xw1.trans (by repeat (first | (with_reducible assumption) | (with_reducible refine Ext.setCell ?_ (by first | (simp; done) | (simp; omega) | omega) _) | (with_reducible apply Ext.alloc) | (with_reducible apply Ext.drew) | (with_reducible apply Ext.drewN) | (with_reducible exact Ext.refl _))))) ha.out (by omega) (by omega)).mono ?_
      rintro e w2 ⟨rfl, xw2⟩
      have Lw2 : Ext w1 w2 := Ext.trans (by repeat (first | (with_reducible assumption) | (with_reducible refine Ext.setCell ?_ (by first | (simp; done) | (simp; omega) | omega) _) | (with_reducible apply Ext.alloc) | (with_reducible apply Ext.drew) | (with_reducible apply Ext.drewN) | (with_reducible exact Ext.refl _))) xw2
      have Xw2 : Ext w w2 := Xw1.trans Lw2
      replace va0 := Lw2.cell va0
      replace va1 := Lw2.cell va1
      replace va2 := Lw2.cell va2
      have z_va : w.heap.size < w2.heap.size := World.block_lt_of_cell? _ _ va0
      have s_w2 : w.heap.size ≤ w2.heap.size := Xw2.size
      clear xw2
      go_wp2_with fail
      go_ret
      exact ⟨by rw [hr.out] <;> rfl, Xw2.trans (by repeat (first | (with_reducible assumption) | (with_reducible refine Ext.setCell ?_ (by first | (simp; done) | (simp; omega) | omega) _) | (with_reducible apply Ext.alloc) | (with_reducible apply Ext.drew) | (with_reducible apply Ext.drewN) | (with_reducible exact Ext.refl _)))⟩

def bndT (b : Int) (s t : List Int) : Int × Int := if viewB b s t && !(countL s == 0) then (minL (offsL b s t), maxL (offsL b s t)) else (-1, -1)
set_option maxHeartbeats 1600000 in
theorem implBoundsOf_c (b1 : Int) (u1 v1 : Value) (s1 t1 : List Int) (w : World) (l1 m1 : Nat) (h1 : Ints w l1 u1 s1) (k1 : Ints w m1 v1 t1) :
    Calls Try.prog 17 #[.agg #[.int .i64 b1, u1, v1]] w (fun e w' => e = .returned (.tuple #[.int .i64 (bndT b1 s1 t1).1, .int .i64 (bndT b1 s1 t1).2]) ∧ Ext w w') := by
  obtain ⟨a1, cp1, rfl⟩ := h1.form
  obtain ⟨a2, cp2, rfl⟩ := k1.form
  cases ha : viewB b1 s1 t1
  · have hr : Hid (bndT b1 s1 t1 = (-1, -1)) := Lib.hid (by unfold bndT; rw [ha]; rfl)
    replace ha := Lib.hid ha
    go_enter Try.func17, Try.ntmps17
    go_wp2_with fail
    refine (isView_c b1 _ _ s1 t1 _ l1 m1 (h1.ext (by repeat (first | (with_reducible assumption) | (with_reducible refine Ext.setCell ?_ (by first | (simp; done) | (simp; omega) | omega) _) | (with_reducible apply Ext.alloc) | (with_reducible apply Ext.drew) | (with_reducible apply Ext.drewN) | (with_reducible exact Ext.refl _)))) (k1.ext (by repeat (first | (with_reducible assumption) | (with_reducible refine Ext.setCell ?_ (by first | (simp; done) | (simp; omega) | omega) _) | (with_reducible apply Ext.alloc) | (with_reducible apply Ext.drew) | (with_reducible apply Ext.drewN) | (with_reducible exact Ext.refl _))))).mono ?_
    rintro e w1 ⟨rfl, xw1⟩
    have Lw1 : Ext w w1 := Ext.trans (by repeat (first | (with_reducible assumption) | (with_reducible refine Ext.setCell ?_ (by first | (simp; done) | (simp; omega) | omega) _) | (with_reducible apply Ext.alloc) | (with_reducible apply Ext.drew) | (with_reducible apply Ext.drewN) | (with_reducible exact Ext.refl _))) xw1
    have Xw1 : Ext w w1 := Lw1
    have va0 : w1.cell? ⟨w.heap.size, 0, none⟩ = some (.int .i64 b1) := xw1.cell (by first | (simp; done) | ((repeat rw [World.cell?_alloc_lt _ _ _ (by simp <;> omega)]); simp; done) | (go_simp; done))
    have va1 : w1.cell? ⟨w.heap.size, 1, none⟩ = some (.slice a1 s1.length cp1) := xw1.cell (by first | (simp; done) | ((repeat rw [World.cell?_alloc_lt _ _ _ (by simp <;> omega)]); simp; done) | (go_simp; done))
    have va2 : w1.cell? ⟨w.heap.size, 2, none⟩ = some (.slice a2 t1.length cp2) := xw1.cell (by first | (simp; done) | ((repeat rw [World.cell?_alloc_lt _ _ _ (by simp <;> omega)]); simp; done) | (go_simp; done))
    have z_va : w.heap.size < w1.heap.size := World.block_lt_of_cell? _ _ va0
    have s_w1 : w.heap.size ≤ w1.heap.size := Xw1.size
    clear xw1
    rw [ha.out]
    go_wp2_with fail
    go_ret2
    rw [hr.out]
    exact ⟨rfl, Xw1.trans (by repeat (first | (with_reducible assumption) | (with_reducible refine Ext.setCell ?_ (by first | (simp; done) | (simp; omega) | omega) _) | (with_reducible apply Ext.alloc) | (with_reducible apply Ext.drew) | (with_reducible apply Ext.drewN) | (with_reducible exact Ext.refl _)))⟩
  · cases hz : (countL s1 == 0)
    · have hr : Hid (bndT b1 s1 t1 = (minL (offsL b1 s1 t1), maxL (offsL b1 s1 t1))) := Lib.hid (by unfold bndT; rw [ha, hz]; rfl)
      obtain ⟨j1, j2, -⟩ := viewB_in ha
      have hin := Lib.hid (shapeB_in j1)
      have hj2 := Lib.hid j2
      have hne : Hid (offsL b1 s1 t1 ≠ []) := Lib.hid (min_lo ha (by simpa using hz)).2.2
      clear j1 j2
      replace ha := Lib.hid ha
      go_enter Try.func17, Try.ntmps17
      go_wp2_with fail
      refine (isView_c b1 _ _ s1 t1 _ l1 m1 (h1.ext (by repeat (first | (with_reducible assumption) | (with_reducible refine Ext.setCell ?_ (by first | (simp; done) | (simp; omega) | omega) _) | (with_reducible apply Ext.alloc) | (with_reducible apply Ext.drew) | (with_reducible apply Ext.drewN) | (with_reducible exact Ext.refl _)))) (k1.ext (by repeat (first | (with_reducible assumption) | (with_reducible refine Ext.setCell ?_ (by first | (simp; done) | (simp; omega) | omega) _) | (with_reducible apply Ext.alloc) | (with_reducible apply Ext.drew) | (with_reducible apply Ext.drewN) | (with_reducible exact Ext.refl _))))).mono ?_
      rintro e w1 ⟨rfl, xw1⟩
      have Lw1 : Ext w w1 := Ext.trans (by repeat (first | (with_reducible assumption) | (with_reducible refine Ext.setCell ?_ (by first | (simp; done) | (simp; omega) | omega) _) | (with_reducible apply Ext.alloc) | (with_reducible apply Ext.drew) | (with_reducible apply Ext.drewN) | (with_reducible exact Ext.refl _))) xw1
      have Xw1 : Ext w w1 := Lw1
      have va0 : w1.cell? ⟨w.heap.size, 0, none⟩ = some (.int .i64 b1) := xw1.cell (by first | (simp; done) | ((repeat rw [World.cell?_alloc_lt _ _ _ (by simp <;> omega)]); simp; done) | (go_simp; done))
      have va1 : w1.cell? ⟨w.heap.size, 1, none⟩ = some (.slice a1 s1.length cp1) := xw1.cell (by first | (simp; done) | ((repeat rw [World.cell?_alloc_lt _ _ _ (by simp <;> omega)]); simp; done) | (go_simp; done))
      have va2 : w1.cell? ⟨w.heap.size, 2, none⟩ = some (.slice a2 t1.length cp2) := xw1.cell (by first | (simp; done) | ((repeat rw [World.cell?_alloc_lt _ _ _ (by simp <;> omega)]); simp; done) | (go_simp; done))
      have z_va : w.heap.size < w1.heap.size := World.block_lt_of_cell? _ _ va0
      have s_w1 : w.heap.size ≤ w1.heap.size := Xw1.size
      clear xw1
      rw [ha.out]
      go_wp2_with fail
      refine (countOf_c s1 _ _ l1 (h1.ext (Xw1.trans (by repeat (first | (with_reducible assumption) | (with_reducible refine Ext.setCell ?_ (by first | (simp; done) | (simp; omega) | omega) _) | (with_reducible apply Ext.alloc) | (with_reducible apply Ext.drew) | (with_reducible apply Ext.drewN) | (with_reducible exact Ext.refl _)))))).mono ?_
      rintro e w' ⟨rfl, rfl⟩
      go_wp2_with fail
      refine (offsetsOf_c b1 _ _ s1 t1 _ l1 m1 (h1.ext (Xw1.trans (by repeat (first | (with_reducible assumption) | (with_reducible refine Ext.setCell ?_ (by first | (simp; done) | (simp; omega) | omega) _) | (with_reducible apply Ext.alloc) | (with_reducible apply Ext.drew) | (with_reducible apply Ext.drewN) | (with_reducible exact Ext.refl _))))) (k1.ext (Xw1.trans (by repeat (first | (with_reducible assumption) | (with_reducible refine Ext.setCell ?_ (by first | (simp; done) | (simp; omega) | omega) _) | (with_reducible apply Ext.alloc) | (with_reducible apply Ext.drew) | (with_reducible apply Ext.drewN) | (with_reducible exact Ext.refl _))))) (by have := hj2.out; omega) hin.out.2.2.2.2 (by have := hin.out; omega)).mono ?_
      rintro e w2 ⟨r, rfl, i, -, xw2⟩
      have Lw2 : Ext w1 w2 := Ext.trans (by repeat (first | (with_reducible assumption) | (with_reducible refine Ext.setCell ?_ (by first | (simp; done) | (simp; omega) | omega) _) | (with_reducible apply Ext.alloc) | (with_reducible apply Ext.drew) | (with_reducible apply Ext.drewN) | (with_reducible exact Ext.refl _))) xw2
      have Xw2 : Ext w w2 := Xw1.trans Lw2
      replace va0 := Lw2.cell va0
      replace va1 := Lw2.cell va1
      replace va2 := Lw2.cell va2
      have z_va : w.heap.size < w2.heap.size := World.block_lt_of_cell? _ _ va0
      have s_w2 : w.heap.size ≤ w2.heap.size := Xw2.size
      clear xw2
      go_wp2_with fail
      refine (min_c _ _ _ _ i hne.out).mono ?_
      rintro e w' ⟨rfl, rfl⟩
      go_wp2_with fail
      refine (max_c _ _ _ _ i hne.out).mono ?_
      rintro e w' ⟨rfl, rfl⟩
      go_wp2_with fail
      go_ret2
      rw [hr.out]
      exact ⟨rfl, Xw2.trans (by repeat (first | (with_reducible assumption) | (with_reducible refine Ext.setCell ?_ (by first | (simp; done) | (simp; omega) | omega) _) | (with_reducible apply Ext.alloc) | (with_reducible apply Ext.drew) | (with_reducible apply Ext.drewN) | (with_reducible exact Ext.refl _)))⟩
    · have hr : Hid (bndT b1 s1 t1 = (-1, -1)) := Lib.hid (by unfold bndT; rw [ha, hz]; rfl)
      replace ha := Lib.hid ha
      go_enter Try.func17, Try.ntmps17
      go_wp2_with fail
      refine (isView_c b1 _ _ s1 t1 _ l1 m1 (h1.ext (by repeat (first | (with_reducible assumption) | (with_reducible refine Ext.setCell ?_ (by first | (simp; done) | (simp; omega) | omega) _) | (with_reducible apply Ext.alloc) | (with_reducible apply Ext.drew) | (with_reducible apply Ext.drewN) | (with_reducible exact Ext.refl _)))) (k1.ext (by repeat (first | (with_reducible assumption) | (with_reducible refine Ext.setCell ?_ (by first | (simp; done) | (simp; omega) | omega) _) | (with_reducible apply Ext.alloc) | (with_reducible apply Ext.drew) | (with_reducible apply Ext.drewN) | (with_reducible exact Ext.refl _))))).mono ?_
      rintro e w1 ⟨rfl, xw1⟩
      have Lw1 : Ext w w1 := Ext.trans (by repeat (first | (with_reducible assumption) | (with_reducible refine Ext.setCell ?_ (by first | (simp; done) | (simp; omega) | omega) _) | (with_reducible apply Ext.alloc) | (with_reducible apply Ext.drew) | (with_reducible apply Ext.drewN) | (with_reducible exact Ext.refl _))) xw1
      have Xw1 : Ext w w1 := Lw1
      have va0 : w1.cell? ⟨w.heap.size, 0, none⟩ = some (.int .i64 b1) := xw1.cell (by first | (simp; done) | ((repeat rw [World.cell?_alloc_lt _ _ _ (by simp <;> omega)]); simp; done) | (go_simp; done))
      have va1 : w1.cell? ⟨w.heap.size, 1, none⟩ = some (.slice a1 s1.length cp1) := xw1.cell (by first | (simp; done) | ((repeat rw [World.cell?_alloc_lt _ _ _ (by simp <;> omega)]); simp; done) | (go_simp; done))
      have va2 : w1.cell? ⟨w.heap.size, 2, none⟩ = some (.slice a2 t1.length cp2) := xw1.cell (by first | (simp; done) | ((repeat rw [World.cell?_alloc_lt _ _ _ (by simp <;> omega)]); simp; done) | (go_simp; done))
      have z_va : w.heap.size < w1.heap.size := World.block_lt_of_cell? _ _ va0
      have s_w1 : w.heap.size ≤ w1.heap.size := Xw1.size
      clear xw1
      rw [ha.out]
      go_wp2_with fail
      refine (countOf_c s1 _ _ l1 (h1.ext (Xw1.trans (by repeat (first | (with_reducible assumption) | (with_reducible refine Ext.setCell ?_ (by first | (simp; done) | (simp; omega) | omega) _) | (with_reducible apply Ext.alloc) | (with_reducible apply Ext.drew) | (with_reducible apply Ext.drewN) | (with_reducible exact Ext.refl _)))))).mono ?_
      rintro e w' ⟨rfl, rfl⟩
      go_wp2_with fail
      go_ret2
      rw [hr.out]
      exact ⟨rfl, Xw1.trans (by repeat (first | (with_reducible assumption) | (with_reducible refine Ext.setCell ?_ (by first | (simp; done) | (simp; omega) | omega) _) | (with_reducible apply Ext.alloc) | (with_reducible apply Ext.drew) | (with_reducible apply Ext.drewN) | (with_reducible exact Ext.refl _)))⟩


end Go.Proofs.Ytnjaidgifccgjaa

/- Walks: OffsetsOf and IsRow of the program and of the reference. -/
namespace Go.Proofs.Ytnjaidgifccgjaa
open Go.RowKit
set_option linter.unusedVariables false
set_option maxRecDepth 100000


def offA (b : Int) (s t : List Int) : List Int := if viewB b s t then offsL b s t else []
set_option maxHeartbeats 1600000 in
theorem implOffsetsOf_c (b1 : Int) (u1 v1 : Value) (s1 t1 : List Int) (w : World) (l1 m1 : Nat) (h1 : Ints w l1 u1 s1) (k1 : Ints w m1 v1 t1) :
    Calls Try.prog 19 #[.agg #[.int .i64 b1, u1, v1]] w (PInts w (offA b1 s1 t1)) := by
  obtain ⟨a1, cp1, rfl⟩ := h1.form
  obtain ⟨a2, cp2, rfl⟩ := k1.form
  cases ha : viewB b1 s1 t1
  · have hr : Hid (offA b1 s1 t1 = []) := Lib.hid (by unfold offA; rw [ha]; rfl)
    replace ha := Lib.hid ha
    go_enter Try.func19, Try.ntmps19
    go_wp2_with fail
    refine (isView_c b1 _ _ s1 t1 _ l1 m1 (h1.ext (by repeat (first | (with_reducible assumption) | (with_reducible refine Ext.setCell ?_ (by first | (simp; done) | (simp; omega) | omega) _) | (with_reducible apply Ext.alloc) | (with_reducible apply Ext.drew) | (with_reducible apply Ext.drewN) | (with_reducible exact Ext.refl _)))) (k1.ext (by repeat (first | (with_reducible assumption) | (with_reducible refine Ext.setCell ?_ (by first | (simp; done) | (simp; omega) | omega) _) | (with_reducible apply Ext.alloc) | (with_reducible apply Ext.drew) | (with_reducible apply Ext.drewN) | (with_reducible exact Ext.refl _))))).mono ?_
    rintro e w1 ⟨rfl, xw1⟩
    have Lw1 : Ext w w1 := Ext.trans (by repeat (first | (with_reducible assumption) | (with_reducible refine Ext.setCell ?_ (by first | (simp; done) | (simp; omega) | omega) _) | (with_reducible apply Ext.alloc) | (with_reducible apply Ext.drew) | (with_reducible apply Ext.drewN) | (with_reducible exact Ext.refl _))) xw1
    have Xw1 : Ext w w1 := Lw1
    have va0 : w1.cell? ⟨w.heap.size, 0, none⟩ = some (.int .i64 b1) := xw1.cell (by first | (simp; done) | ((repeat rw [World.cell?_alloc_lt _ _ _ (by simp <;> omega)]); simp; done) | (go_simp; done))
    have va1 : w1.cell? ⟨w.heap.size, 1, none⟩ = some (.slice a1 s1.length cp1) := xw1.cell (by first | (simp; done) | ((repeat rw [World.cell?_alloc_lt _ _ _ (by simp <;> omega)]); simp; done) | (go_simp; done))
    have va2 : w1.cell? ⟨w.heap.size, 2, none⟩ = some (.slice a2 t1.length cp2) := xw1.cell (by first | (simp; done) | ((repeat rw [World.cell?_alloc_lt _ _ _ (by simp <;> omega)]); simp; done) | (go_simp; done))
    have z_va : w.heap.size < w1.heap.size := World.block_lt_of_cell? _ _ va0
    have s_w1 : w.heap.size ≤ w1.heap.size := Xw1.size
    clear xw1
    rw [ha.out]
    go_wp2_with fail
    go_ret
    rw [hr.out]
    exact PInts.nilv (Xw1.trans (by repeat (first | (with_reducible assumption) | (with_reducible refine Ext.setCell ?_ (by first | (simp; done) | (simp; omega) | omega) _) | (with_reducible apply Ext.alloc) | (with_reducible apply Ext.drew) | (with_reducible apply Ext.drewN) | (with_reducible exact Ext.refl _))))
  · have hr : Hid (offA b1 s1 t1 = offsL b1 s1 t1) := Lib.hid (by unfold offA; rw [ha]; rfl)
    obtain ⟨j1, j2, -⟩ := viewB_in ha
    have hin := Lib.hid (shapeB_in j1)
    have hj2 := Lib.hid j2
    clear j1 j2
    replace ha := Lib.hid ha
    go_enter Try.func19, Try.ntmps19
    go_wp2_with fail
    refine (isView_c b1 _ _ s1 t1 _ l1 m1 (h1.ext (by repeat (first | (with_reducible assumption) | (with_reducible refine Ext.setCell ?_ (by first | (simp; done) | (simp; omega) | omega) _) | (with_reducible apply Ext.alloc) | (with_reducible apply Ext.drew) | (with_reducible apply Ext.drewN) | (with_reducible exact Ext.refl _)))) (k1.ext (by repeat (first | (with_reducible assumption) | (with_reducible refine Ext.setCell ?_ (by first | (simp; done) | (simp; omega) | omega) _) | (with_reducible apply Ext.alloc) | (with_reducible apply Ext.drew) | (with_reducible apply Ext.drewN) | (with_reducible exact Ext.refl _))))).mono ?_
    rintro e w1 ⟨rfl, xw1⟩
    have Lw1 : Ext w w1 := Ext.trans (by repeat (first | (with_reducible assumption) | (with_reducible refine Ext.setCell ?_ (by first | (simp; done) | (simp; omega) | omega) _) | (with_reducible apply Ext.alloc) | (with_reducible apply Ext.drew) | (with_reducible apply Ext.drewN) | (with_reducible exact Ext.refl _))) xw1
    have Xw1 : Ext w w1 := Lw1
    have va0 : w1.cell? ⟨w.heap.size, 0, none⟩ = some (.int .i64 b1) := xw1.cell (by first | (simp; done) | ((repeat rw [World.cell?_alloc_lt _ _ _ (by simp <;> omega)]); simp; done) | (go_simp; done))
    have va1 : w1.cell? ⟨w.heap.size, 1, none⟩ = some (.slice a1 s1.length cp1) := xw1.cell (by first | (simp; done) | ((repeat rw [World.cell?_alloc_lt _ _ _ (by simp <;> omega)]); simp; done) | (go_simp; done))
    have va2 : w1.cell? ⟨w.heap.size, 2, none⟩ = some (.slice a2 t1.length cp2) := xw1.cell (by first | (simp; done) | ((repeat rw [World.cell?_alloc_lt _ _ _ (by simp <;> omega)]); simp; done) | (go_simp; done))
    have z_va : w.heap.size < w1.heap.size := World.block_lt_of_cell? _ _ va0
    have s_w1 : w.heap.size ≤ w1.heap.size := Xw1.size
    clear xw1
    rw [ha.out]
    go_wp2_with fail
    refine (offsetsOf_c b1 _ _ s1 t1 _ l1 m1 (h1.ext (Xw1.trans (by repeat (first | (with_reducible assumption) | (with_reducible refine Ext.setCell ?_ (by first | (simp; done) | (simp; omega) | omega) _) | (with_reducible apply Ext.alloc) | (with_reducible apply Ext.drew) | (with_reducible apply Ext.drewN) | (with_reducible exact Ext.refl _))))) (k1.ext (Xw1.trans (by repeat (first | (with_reducible assumption) | (with_reducible refine Ext.setCell ?_ (by first | (simp; done) | (simp; omega) | omega) _) | (with_reducible apply Ext.alloc) | (with_reducible apply Ext.drew) | (with_reducible apply Ext.drewN) | (with_reducible exact Ext.refl _))))) (by have := hj2.out; omega) hin.out.2.2.2.2 (by have := hin.out; omega)).mono ?_
    rintro e w2 ⟨r, rfl, i, o, xw2⟩
    have Lw2 : Ext w1 w2 := Ext.trans (by repeat (first | (with_reducible assumption) | (with_reducible refine Ext.setCell ?_ (by first | (simp; done) | (simp; omega) | omega) _) | (with_reducible apply Ext.alloc) | (with_reducible apply Ext.drew) | (with_reducible apply Ext.drewN) | (with_reducible exact Ext.refl _))) xw2
    have Xw2 : Ext w w2 := Xw1.trans Lw2
    replace va0 := Lw2.cell va0
    replace va1 := Lw2.cell va1
    replace va2 := Lw2.cell va2
    have z_va : w.heap.size < w2.heap.size := World.block_lt_of_cell? _ _ va0
    have s_w2 : w.heap.size ≤ w2.heap.size := Xw2.size
    clear xw2
    go_wp2_with fail
    go_ret
    rw [hr.out]
    exact PInts.of o i (by first | omega | (simp; omega)) (Xw2.trans (by repeat (first | (with_reducible assumption) | (with_reducible refine Ext.setCell ?_ (by first | (simp; done) | (simp; omega) | omega) _) | (with_reducible apply Ext.alloc) | (with_reducible apply Ext.drew) | (with_reducible apply Ext.drewN) | (with_reducible exact Ext.refl _))))

set_option maxHeartbeats 1600000 in
theorem specOffsetsOf_c (b1 : Int) (u1 v1 : Value) (s1 t1 : List Int) (w : World) (l1 m1 : Nat) (h1 : Ints w l1 u1 s1) (k1 : Ints w m1 v1 t1) :
    Calls Try.prog 21 #[.agg #[.int .i64 b1, u1, v1]] w (PInts w (offA b1 s1 t1)) := by
  obtain ⟨a1, cp1, rfl⟩ := h1.form
  obtain ⟨a2, cp2, rfl⟩ := k1.form
  cases ha : viewB b1 s1 t1
  · have hr : Hid (offA b1 s1 t1 = []) := Lib.hid (by unfold offA; rw [ha]; rfl)
    replace ha := Lib.hid ha
    go_enter Try.func21, Try.ntmps21
    go_wp2_with fail
    refine (validView_c b1 _ _ s1 t1 _ l1 m1 (h1.ext (by repeat (first | (with_reducible assumption) | (with_reducible refine Ext.setCell ?_ (by first | (simp; done) | (simp; omega) | omega) _) | (with_reducible apply Ext.alloc) | (with_reducible apply Ext.drew) | (with_reducible apply Ext.drewN) | (with_reducible exact Ext.refl _)))) (k1.ext (by repeat (first | (with_reducible assumption) | (with_reducible refine Ext.setCell ?_ (by first | (simp; done) | (simp; omega) | omega) _) | (with_reducible apply Ext.alloc) | (with_reducible apply Ext.drew) | (with_reducible apply Ext.drewN) | (with_reducible exact Ext.refl _))))).mono ?_
    rintro e w1 ⟨rfl, xw1⟩
    have Lw1 : Ext w w1 := Ext.trans (by repeat (first | (with_reducible assumption) | (with_reducible refine Ext.setCell ?_ (by first | (simp; done) | (simp; omega) | omega) _) | (with_reducible apply Ext.alloc) | (with_reducible apply Ext.drew) | (with_reducible apply Ext.drewN) | (with_reducible exact Ext.refl _))) xw1
    have Xw1 : Ext w w1 := Lw1
    have va0 : w1.cell? ⟨w.heap.size, 0, none⟩ = some (.int .i64 b1) := xw1.cell (by first | (simp; done) | ((repeat rw [World.cell?_alloc_lt _ _ _ (by simp <;> omega)]); simp; done) | (go_simp; done))
    have va1 : w1.cell? ⟨w.heap.size, 1, none⟩ = some (.slice a1 s1.length cp1) := xw1.cell (by first | (simp; done) | ((repeat rw [World.cell?_alloc_lt _ _ _ (by simp <;> omega)]); simp; done) | (go_simp; done))
    have va2 : w1.cell? ⟨w.heap.size, 2, none⟩ = some (.slice a2 t1.length cp2) := xw1.cell (by first | (simp; done) | ((repeat rw [World.cell?_alloc_lt _ _ _ (by simp <;> omega)]); simp; done) | (go_simp; done))
    have z_va : w.heap.size < w1.heap.size := World.block_lt_of_cell? _ _ va0
    have s_w1 : w.heap.size ≤ w1.heap.size := Xw1.size
    clear xw1
    rw [ha.out]
    go_wp2_with fail
    go_ret
    rw [hr.out]
    exact PInts.nilv (Xw1.trans (by repeat (first | (with_reducible assumption) | (with_reducible refine Ext.setCell ?_ (by first | (simp; done) | (simp; omega) | omega) _) | (with_reducible apply Ext.alloc) | (with_reducible apply Ext.drew) | (with_reducible apply Ext.drewN) | (with_reducible exact Ext.refl _))))
  · have hr : Hid (offA b1 s1 t1 = offsL b1 s1 t1) := Lib.hid (by unfold offA; rw [ha]; rfl)
    obtain ⟨j1, j2, -⟩ := viewB_in ha
    have hin := Lib.hid (shapeB_in j1)
    have hj2 := Lib.hid j2
    clear j1 j2
    replace ha := Lib.hid ha
    go_enter Try.func21, Try.ntmps21
    go_wp2_with fail
    refine (validView_c b1 _ _ s1 t1 _ l1 m1 (h1.ext (by repeat (first | (with_reducible assumption) | (with_reducible refine Ext.setCell ?_ (by first | (simp; done) | (simp; omega) | omega) _) | (with_reducible apply Ext.alloc) | (with_reducible apply Ext.drew) | (with_reducible apply Ext.drewN) | (with_reducible exact Ext.refl _)))) (k1.ext (by repeat (first | (with_reducible assumption) | (with_reducible refine Ext.setCell ?_ (by first | (simp; done) | (simp; omega) | omega) _) | (with_reducible apply Ext.alloc) | (with_reducible apply Ext.drew) | (with_reducible apply Ext.drewN) | (with_reducible exact Ext.refl _))))).mono ?_
    rintro e w1 ⟨rfl, xw1⟩
    have Lw1 : Ext w w1 := Ext.trans (by repeat (first | (with_reducible assumption) | (with_reducible refine Ext.setCell ?_ (by first | (simp; done) | (simp; omega) | omega) _) | (with_reducible apply Ext.alloc) | (with_reducible apply Ext.drew) | (with_reducible apply Ext.drewN) | (with_reducible exact Ext.refl _))) xw1
    have Xw1 : Ext w w1 := Lw1
    have va0 : w1.cell? ⟨w.heap.size, 0, none⟩ = some (.int .i64 b1) := xw1.cell (by first | (simp; done) | ((repeat rw [World.cell?_alloc_lt _ _ _ (by simp <;> omega)]); simp; done) | (go_simp; done))
    have va1 : w1.cell? ⟨w.heap.size, 1, none⟩ = some (.slice a1 s1.length cp1) := xw1.cell (by first | (simp; done) | ((repeat rw [World.cell?_alloc_lt _ _ _ (by simp <;> omega)]); simp; done) | (go_simp; done))
    have va2 : w1.cell? ⟨w.heap.size, 2, none⟩ = some (.slice a2 t1.length cp2) := xw1.cell (by first | (simp; done) | ((repeat rw [World.cell?_alloc_lt _ _ _ (by simp <;> omega)]); simp; done) | (go_simp; done))
    have z_va : w.heap.size < w1.heap.size := World.block_lt_of_cell? _ _ va0
    have s_w1 : w.heap.size ≤ w1.heap.size := Xw1.size
    clear xw1
    rw [ha.out]
    go_wp2_with fail
    refine (offsets_c b1 _ _ s1 t1 _ l1 m1 (h1.ext (Xw1.trans (by repeat (first | (with_reducible assumption) | (with_reducible refine Ext.setCell ?_ (by first | (simp; done) | (simp; omega) | omega) _) | (with_reducible apply Ext.alloc) | (with_reducible apply Ext.drew) | (with_reducible apply Ext.drewN) | (with_reducible exact Ext.refl _))))) (k1.ext (Xw1.trans (by repeat (first | (with_reducible assumption) | (with_reducible refine Ext.setCell ?_ (by first | (simp; done) | (simp; omega) | omega) _) | (with_reducible apply Ext.alloc) | (with_reducible apply Ext.drew) | (with_reducible apply Ext.drewN) | (with_reducible exact Ext.refl _))))) (by have := hj2.out; omega) hin.out.2.2.2.2 (by have := hin.out; omega)).mono ?_
    rintro e w2 ⟨r, rfl, i, o, xw2⟩
    have Lw2 : Ext w1 w2 := Ext.trans (by repeat (first | (with_reducible assumption) | (with_reducible refine Ext.setCell ?_ (by first | (simp; done) | (simp; omega) | omega) _) | (with_reducible apply Ext.alloc) | (with_reducible apply Ext.drew) | (with_reducible apply Ext.drewN) | (with_reducible exact Ext.refl _))) xw2
    have Xw2 : Ext w w2 := Xw1.trans Lw2
    replace va0 := Lw2.cell va0
    replace va1 := Lw2.cell va1
    replace va2 := Lw2.cell va2
    have z_va : w.heap.size < w2.heap.size := World.block_lt_of_cell? _ _ va0
    have s_w2 : w.heap.size ≤ w2.heap.size := Xw2.size
    clear xw2
    go_wp2_with fail
    go_ret
    rw [hr.out]
    exact PInts.of o i (by first | omega | (simp; omega)) (Xw2.trans (by repeat (first | (with_reducible assumption) | (with_reducible refine Ext.setCell ?_ (by first | (simp; done) | (simp; omega) | omega) _) | (with_reducible apply Ext.alloc) | (with_reducible apply Ext.drew) | (with_reducible apply Ext.drewN) | (with_reducible exact Ext.refl _))))


end Go.Proofs.Ytnjaidgifccgjaa

/- Helpers of the laws: equal lists, equal views, a number in a list. -/
namespace Go.Proofs.Ytnjaidgifccgjaa
open Go.RowKit
set_option linter.unusedVariables false
set_option maxRecDepth 100000



set_option maxHeartbeats 1600000 in
theorem leqInts_c (xs : List Int) (a b : Value) (w : World) (la lb : Nat) (ha : Ints w la a xs) (hb : Ints w lb b xs) :
    Calls Try.prog 20 #[a, b] w fun e w' => e = .returned (.bool true) ∧ Ext w w' := by
  obtain ⟨a1, cap1, rfl, _, _, ⟨hlen, _⟩, hc1⟩ := ha
  obtain ⟨a2, cap2, rfl, _, _, ⟨hlen2, _⟩, hc2⟩ := hb
  go_enter Try.func20, Try.ntmps20
  go_wp2_with fail
  go_loopw [5] (fun i wr => ∃ k m : Nat, k ≤ xs.length ∧ i = .int .i64 k ∧ wr = w.drewN m) (fun i _ => xs.length - (intOf i).toNat)
  case atStart => exact ⟨0, 0, Nat.zero_le _, rfl, rfl⟩
  case round =>
    obtain ⟨k, m, hk, rfl, rfl⟩ := hrel
    by_cases hlt : k < xs.length
    · obtain ⟨b1, off1, rfl, _, hcell1, _⟩ := hc1 k hlt
      obtain ⟨b2, off2, rfl, _, hcell2, _⟩ := hc2 k hlt
      have hk4 : (k : Int) < xs.length := by omega
      clear hc1 hc2
      generalize xs.getD k 0 = x at *
      go_wp2_with fail
      go_quiet (fail)
      go_wp2_with fail
      go_roundw
      case rel => exact ⟨k+1, _, by omega, by go_num, rfl⟩
      case measure => simp [intOf]; omega
    · obtain rfl : k = xs.length := by omega
      go_wp2_with fail
      go_ret
      exact ⟨rfl, (by repeat (first | exact Ext.refl _ | assumption | apply Ext.drewN | apply Ext.drew | apply Ext.alloc))⟩

set_option maxHeartbeats 1600000 in
theorem isIn_c (xs : List Int) (n : Int) (a : Value) (w : World) (la : Nat) (ha : Ints w la a xs) :
    Calls Try.prog 29 #[a, .int .i64 n] w fun e w' => e = .returned (.bool (decide (n ∈ xs))) ∧ Ext w w' := by
  obtain ⟨a1, cap1, rfl, _, _, ⟨hlen, _⟩, hc1⟩ := ha
  go_enter Try.func29, Try.ntmps29
  go_wp2_with fail
  go_loopw [5] (fun i wr => ∃ k m : Nat, k ≤ xs.length ∧ i = .int .i64 k ∧ wr = w.drewN m ∧ Hid (n ∉ xs.take k)) (fun i _ => xs.length - (intOf i).toNat)
  case atStart => exact ⟨0, 0, Nat.zero_le _, rfl, rfl, Lib.hid (by simp)⟩
  case round =>
    obtain ⟨k, m, hk, rfl, rfl, ht⟩ := hrel
    by_cases hlt : k < xs.length
    · obtain ⟨b1, off1, rfl, _, hcell1, _⟩ := hc1 k hlt
      have hk4 : (k : Int) < xs.length := by omega
      have hg := Lib.hid (show xs.getD k 0 ∈ xs by simp [hlt])
      have hs := Lib.hid (show xs.take (k+1) = xs.take k ++ [xs.getD k 0] by rw [List.take_succ_eq_append_getElem hlt]; simp [hlt])
      clear hc1
      generalize xs.getD k 0 = x at *
      by_cases hx : x = n
      · have hq : (x == n) = true := by simpa using hx
        have hn := Lib.hid (show decide (n ∈ xs) = true by rw [← hx]; simpa using hg.out)
        replace hx := Lib.hid hx
        go_wp2_with fail
        go_ret
        exact ⟨by rw [hn.out] <;> rfl, (by repeat (first | exact Ext.refl _ | assumption | apply Ext.drewN | apply Ext.drew | apply Ext.alloc))⟩
      · have hq : (x == n) = false := by simpa using hx
        have hn := Lib.hid (show n ∉ xs.take (k+1) by rw [hs.out]; simp only [List.mem_append, List.mem_singleton, not_or]; exact ⟨ht.out, fun h => hx h.symm⟩)
        replace hx := Lib.hid hx
        go_wp2_with fail
        go_roundw
        case rel => exact ⟨k+1, _, by omega, by go_num, rfl, hn⟩
        case measure => simp [intOf]; omega
    · obtain rfl : k = xs.length := by omega
      have hn := Lib.hid (show decide (n ∈ xs) = false by have := ht.out; rw [List.take_length] at this; simpa using this)
      go_wp2_with fail
      go_ret
      exact ⟨by rw [hn.out] <;> rfl, (by repeat (first | exact Ext.refl _ | assumption | apply Ext.drewN | apply Ext.drew | apply Ext.alloc))⟩

set_option maxHeartbeats 1600000 in
theorem leqView_c (b1 : Int) (u1 v1 u2 v2 : Value) (s1 t1 : List Int) (w : World) (l1 m1 l2 m2 : Nat) (h1 : Ints w l1 u1 s1) (k1 : Ints w m1 v1 t1) (h2 : Ints w l2 u2 s1) (k2 : Ints w m2 v2 t1) :
    Calls Try.prog 46 #[.agg #[.int .i64 b1, u1, v1], .agg #[.int .i64 b1, u2, v2]] w fun e w' => e = .returned (.bool true) ∧ Ext w w' := by
  obtain ⟨a1, cp1, rfl⟩ := h1.form
  obtain ⟨a2, cp2, rfl⟩ := k1.form
  obtain ⟨a3, cp3, rfl⟩ := h2.form
  obtain ⟨a4, cp4, rfl⟩ := k2.form
  go_enter Try.func46, Try.ntmps46
  go_wp2_with fail
  refine (leqInts_c s1 _ _ _ l1 l2 (h1.ext (by repeat (first | (with_reducible assumption) | (with_reducible refine Ext.setCell ?_ (by first | (simp; done) | (simp; omega) | omega) _) | (with_reducible apply Ext.alloc) | (with_reducible apply Ext.drew) | (with_reducible apply Ext.drewN) | (with_reducible exact Ext.refl _)))) (h2.ext (by repeat (first | (with_reducible assumption) | (with_reducible refine Ext.setCell ?_ (by first | (simp; done) | (simp; omega) | omega) _) | (with_reducible apply Ext.alloc) | (with_reducible apply Ext.drew) | (with_reducible apply Ext.drewN) | (with_reducible exact Ext.refl _))))).mono ?_
  rintro e w1 ⟨rfl, xw1⟩
  have Lw1 : Ext w w1 := Ext.trans (by repeat (first | (with_reducible assumption) | (with_reducible refine Ext.setCell ?_ (by first | (simp; done) | (simp; omega) | omega) _) | (with_reducible apply Ext.alloc) | (with_reducible apply Ext.drew) | (with_reducible apply Ext.drewN) | (with_reducible exact Ext.refl _))) xw1
  have Xw1 : Ext w w1 := Lw1
  have va0 : w1.cell? ⟨w.heap.size, 0, none⟩ = some (.int .i64 b1) := xw1.cell (by first | (simp; done) | ((repeat rw [World.cell?_alloc_lt _ _ _ (by simp <;> omega)]); simp; done) | (go_simp; done))
  have va1 : w1.cell? ⟨w.heap.size, 1, none⟩ = some (.slice a1 s1.length cp1) := xw1.cell (by first | (simp; done) | ((repeat rw [World.cell?_alloc_lt _ _ _ (by simp <;> omega)]); simp; done) | (go_simp; done))
  have va2 : w1.cell? ⟨w.heap.size, 2, none⟩ = some (.slice a2 t1.length cp2) := xw1.cell (by first | (simp; done) | ((repeat rw [World.cell?_alloc_lt _ _ _ (by simp <;> omega)]); simp; done) | (go_simp; done))
  have vb0 : w1.cell? ⟨w.heap.size + 1, 0, none⟩ = some (.int .i64 b1) := xw1.cell (by first | (simp; done) | ((repeat rw [World.cell?_alloc_lt _ _ _ (by simp <;> omega)]); simp; done) | (go_simp; done))
  have vb1 : w1.cell? ⟨w.heap.size + 1, 1, none⟩ = some (.slice a3 s1.length cp3) := xw1.cell (by first | (simp; done) | ((repeat rw [World.cell?_alloc_lt _ _ _ (by simp <;> omega)]); simp; done) | (go_simp; done))
  have vb2 : w1.cell? ⟨w.heap.size + 1, 2, none⟩ = some (.slice a4 t1.length cp4) := xw1.cell (by first | (simp; done) | ((repeat rw [World.cell?_alloc_lt _ _ _ (by simp <;> omega)]); simp; done) | (go_simp; done))
  have z_va : w.heap.size < w1.heap.size := World.block_lt_of_cell? _ _ va0
  have z_vb : w.heap.size + 1 < w1.heap.size := World.block_lt_of_cell? _ _ vb0
  have s_w1 : w.heap.size ≤ w1.heap.size := Xw1.size
  clear xw1
  go_wp2_with fail
  refine (leqInts_c t1 _ _ _ m1 m2 (k1.ext (Xw1.trans (by repeat (first | (with_reducible assumption) | (with_reducible refine Ext.setCell ?_ (by first | (simp; done) | (simp; omega) | omega) _) | (with_reducible apply Ext.alloc) | (with_reducible apply Ext.drew) | (with_reducible apply Ext.drewN) | (with_reducible exact Ext.refl _))))) (k2.ext (Xw1.trans (by repeat (first | (with_reducible assumption) | (with_reducible refine Ext.setCell ?_ (by first | (simp; done) | (simp; omega) | omega) _) | (with_reducible apply Ext.alloc) | (with_reducible apply Ext.drew) | (with_reducible apply Ext.drewN) | (with_reducible exact Ext.refl _)))))).mono ?_
  rintro e w2 ⟨rfl, xw2⟩
  have Lw2 : Ext w1 w2 := Ext.trans (by repeat (first | (with_reducible assumption) | (with_reducible refine Ext.setCell ?_ (by first | (simp; done) | (simp; omega) | omega) _) | (with_reducible apply Ext.alloc) | (with_reducible apply Ext.drew) | (with_reducible apply Ext.drewN) | (with_reducible exact Ext.refl _))) xw2
  have Xw2 : Ext w w2 := Xw1.trans Lw2
  replace va0 := Lw2.cell va0
  replace va1 := Lw2.cell va1
  replace va2 := Lw2.cell va2
  replace vb0 := Lw2.cell vb0
  replace vb1 := Lw2.cell vb1
  replace vb2 := Lw2.cell vb2
  have z_va : w.heap.size < w2.heap.size := World.block_lt_of_cell? _ _ va0
  have z_vb : w.heap.size + 1 < w2.heap.size := World.block_lt_of_cell? _ _ vb0
  have s_w2 : w.heap.size ≤ w2.heap.size := Xw2.size
  clear xw2
  go_wp2_with fail
  go_ret
  exact ⟨rfl, Xw2.trans (by repeat (first | (with_reducible assumption) | (with_reducible refine Ext.setCell ?_ (by first | (simp; done) | (simp; omega) | omega) _) | (with_reducible apply Ext.alloc) | (with_reducible apply Ext.drew) | (with_reducible apply Ext.drewN) | (with_reducible exact Ext.refl _)))⟩

end Go.Proofs.Ytnjaidgifccgjaa

/- Walks: LoadView of the program and of the reference. -/
namespace Go.Proofs.Ytnjaidgifccgjaa
open Go.RowKit
set_option linter.unusedVariables false
set_option maxRecDepth 100000


def loadA (mem : List Int) (b : Int) (s t : List Int) : List Int := if holdB mem b s t then loadL mem b s t else []
theorem PInts.no {w w' : World} (h : Ext w w') : PInts w [] (.returned (.slice none 0 0)) w' :=
  ⟨_, rfl, Ints.nil _ _ _ _ (by simp) (fun _ => rfl), .inl ⟨rfl, none, 0, rfl, by simp, fun _ => rfl⟩, h⟩

set_option maxHeartbeats 1600000 in
theorem implLoadView_c (mem : List Int) (a0 : Value) (b1 : Int) (u1 v1 : Value) (s1 t1 : List Int) (w : World) (l0 l1 m1 : Nat) (h0 : Ints w l0 a0 mem) (h1 : Ints w l1 u1 s1) (k1 : Ints w m1 v1 t1) :
    Calls Try.prog 34 #[a0, .agg #[.int .i64 b1, u1, v1]] w (PInts w (loadA mem b1 s1 t1)) := by
  obtain ⟨p0, c0, rfl⟩ := h0.form
  obtain ⟨p1, c1, rfl⟩ := h1.form
  obtain ⟨p2, c2, rfl⟩ := k1.form
  go_enter Try.func34, Try.ntmps34
  go_wp2_with fail
  refine (canHold_c mem (.slice p0 mem.length c0) b1 (.slice p1 s1.length c1) (.slice p2 t1.length c2) s1 t1 _ _ _ _ (h0.ext (by repeat (first | (with_reducible assumption) | (with_reducible refine Ext.setCell ?_ (by first | (simp; done) | (simp; omega) | omega) _) | (with_reducible apply Ext.alloc) | (with_reducible apply Ext.drew) | (with_reducible apply Ext.drewN) | (with_reducible exact Ext.refl _)))) (h1.ext (by repeat (first | (with_reducible assumption) | (with_reducible refine Ext.setCell ?_ (by first | (simp; done) | (simp; omega) | omega) _) | (with_reducible apply Ext.alloc) | (with_reducible apply Ext.drew) | (with_reducible apply Ext.drewN) | (with_reducible exact Ext.refl _)))) (k1.ext (by repeat (first | (with_reducible assumption) | (with_reducible refine Ext.setCell ?_ (by first | (simp; done) | (simp; omega) | omega) _) | (with_reducible apply Ext.alloc) | (with_reducible apply Ext.drew) | (with_reducible apply Ext.drewN) | (with_reducible exact Ext.refl _))))).mono ?_
  rintro e w1 ⟨rfl, xw1⟩
  have Lw1 : Ext w w1 := Ext.trans (by repeat (first | (with_reducible assumption) | (with_reducible refine Ext.setCell ?_ (by first | (simp; done) | (simp; omega) | omega) _) | (with_reducible apply Ext.alloc) | (with_reducible apply Ext.drew) | (with_reducible apply Ext.drewN) | (with_reducible exact Ext.refl _))) xw1
  have Xw1 : Ext w w1 := Lw1
  have b10 : w1.cell? ⟨w.heap.size, 0, none⟩ = some (.int .i64 b1) := xw1.cell (by first | (simp; done) | ((repeat rw [World.cell?_alloc_lt _ _ _ (by simp <;> omega)]); simp; done) | (go_simp; done))
  have b11 : w1.cell? ⟨w.heap.size, 1, none⟩ = some (.slice p1 s1.length c1) := xw1.cell (by first | (simp; done) | ((repeat rw [World.cell?_alloc_lt _ _ _ (by simp <;> omega)]); simp; done) | (go_simp; done))
  have b12 : w1.cell? ⟨w.heap.size, 2, none⟩ = some (.slice p2 t1.length c2) := xw1.cell (by first | (simp; done) | ((repeat rw [World.cell?_alloc_lt _ _ _ (by simp <;> omega)]); simp; done) | (go_simp; done))
  have z_b1 : w.heap.size < w1.heap.size := World.block_lt_of_cell? _ _ b10
  have s_w1 : w.heap.size ≤ w1.heap.size := Xw1.size
  clear xw1
  cases hB2 : holdB mem b1 s1 t1
  · replace hB2 := Lib.hid hB2
    go_wp2_with fail
    go_ret
    rw [show loadA mem b1 s1 t1 = [] by unfold loadA; rw [hB2.out]; rfl]
    exact PInts.no (Xw1.trans (by repeat (first | (with_reducible assumption) | (with_reducible refine Ext.setCell ?_ (by first | (simp; done) | (simp; omega) | omega) _) | (with_reducible apply Ext.alloc) | (with_reducible apply Ext.drew) | (with_reducible apply Ext.drewN) | (with_reducible exact Ext.refl _))))
  · replace hB2 := Lib.hid hB2
    go_wp2_with fail
    refine (loadView_c mem (.slice p0 mem.length c0) b1 (.slice p1 s1.length c1) (.slice p2 t1.length c2) s1 t1 _ _ _ _ (h0.ext (Xw1.trans (by repeat (first | (with_reducible assumption) | (with_reducible refine Ext.setCell ?_ (by first | (simp; done) | (simp; omega) | omega) _) | (with_reducible apply Ext.alloc) | (with_reducible apply Ext.drew) | (with_reducible apply Ext.drewN) | (with_reducible exact Ext.refl _))))) (h1.ext (Xw1.trans (by repeat (first | (with_reducible assumption) | (with_reducible refine Ext.setCell ?_ (by first | (simp; done) | (simp; omega) | omega) _) | (with_reducible apply Ext.alloc) | (with_reducible apply Ext.drew) | (with_reducible apply Ext.drewN) | (with_reducible exact Ext.refl _))))) (k1.ext (Xw1.trans (by repeat (first | (with_reducible assumption) | (with_reducible refine Ext.setCell ?_ (by first | (simp; done) | (simp; omega) | omega) _) | (with_reducible apply Ext.alloc) | (with_reducible apply Ext.drew) | (with_reducible apply Ext.drewN) | (with_reducible exact Ext.refl _))))) hB2.out).mono ?_
    rintro e w2 ⟨fv3, rfl, i4, i4z, xw2⟩
    have Lw2 : Ext w1 w2 := Ext.trans (by repeat (first | (with_reducible assumption) | (with_reducible refine Ext.setCell ?_ (by first | (simp; done) | (simp; omega) | omega) _) | (with_reducible apply Ext.alloc) | (with_reducible apply Ext.drew) | (with_reducible apply Ext.drewN) | (with_reducible exact Ext.refl _))) xw2
    have Xw2 : Ext w w2 := Xw1.trans Lw2
    replace b10 := Lw2.cell b10
    replace b11 := Lw2.cell b11
    replace b12 := Lw2.cell b12
    have z_b1 : w.heap.size < w2.heap.size := World.block_lt_of_cell? _ _ b10
    have s_w2 : w.heap.size ≤ w2.heap.size := Xw2.size
    clear xw2
    obtain ⟨afv3, cfv3, rfl⟩ := i4.form
    go_wp2_with fail
    go_ret
    rw [show loadA mem b1 s1 t1 = loadL mem b1 s1 t1 by unfold loadA; rw [hB2.out]; rfl]
    exact ⟨_, rfl, i4.lower (by omega), i4z.lower (by omega), Xw2⟩

set_option maxHeartbeats 1600000 in
theorem specLoadView_c (mem : List Int) (a0 : Value) (b1 : Int) (u1 v1 : Value) (s1 t1 : List Int) (w : World) (l0 l1 m1 : Nat) (h0 : Ints w l0 a0 mem) (h1 : Ints w l1 u1 s1) (k1 : Ints w m1 v1 t1) :
    Calls Try.prog 35 #[a0, .agg #[.int .i64 b1, u1, v1]] w (PInts w (loadA mem b1 s1 t1)) := by
  obtain ⟨p0, c0, rfl⟩ := h0.form
  obtain ⟨p1, c1, rfl⟩ := h1.form
  obtain ⟨p2, c2, rfl⟩ := k1.form
  go_enter Try.func35, Try.ntmps35
  go_wp2_with fail
  refine (sees_c mem (.slice p0 mem.length c0) b1 (.slice p1 s1.length c1) (.slice p2 t1.length c2) s1 t1 _ _ _ _ (h0.ext (by repeat (first | (with_reducible assumption) | (with_reducible refine Ext.setCell ?_ (by first | (simp; done) | (simp; omega) | omega) _) | (with_reducible apply Ext.alloc) | (with_reducible apply Ext.drew) | (with_reducible apply Ext.drewN) | (with_reducible exact Ext.refl _)))) (h1.ext (by repeat (first | (with_reducible assumption) | (with_reducible refine Ext.setCell ?_ (by first | (simp; done) | (simp; omega) | omega) _) | (with_reducible apply Ext.alloc) | (with_reducible apply Ext.drew) | (with_reducible apply Ext.drewN) | (with_reducible exact Ext.refl _)))) (k1.ext (by repeat (first | (with_reducible assumption) | (with_reducible refine Ext.setCell ?_ (by first | (simp; done) | (simp; omega) | omega) _) | (with_reducible apply Ext.alloc) | (with_reducible apply Ext.drew) | (with_reducible apply Ext.drewN) | (with_reducible exact Ext.refl _))))).mono ?_
  rintro e w1 ⟨rfl, xw1⟩
  have Lw1 : Ext w w1 := Ext.trans (by repeat (first | (with_reducible assumption) | (with_reducible refine Ext.setCell ?_ (by first | (simp; done) | (simp; omega) | omega) _) | (with_reducible apply Ext.alloc) | (with_reducible apply Ext.drew) | (with_reducible apply Ext.drewN) | (with_reducible exact Ext.refl _))) xw1
  have Xw1 : Ext w w1 := Lw1
  have b10 : w1.cell? ⟨w.heap.size, 0, none⟩ = some (.int .i64 b1) := xw1.cell (by first | (simp; done) | ((repeat rw [World.cell?_alloc_lt _ _ _ (by simp <;> omega)]); simp; done) | (go_simp; done))
  have b11 : w1.cell? ⟨w.heap.size, 1, none⟩ = some (.slice p1 s1.length c1) := xw1.cell (by first | (simp; done) | ((repeat rw [World.cell?_alloc_lt _ _ _ (by simp <;> omega)]); simp; done) | (go_simp; done))
  have b12 : w1.cell? ⟨w.heap.size, 2, none⟩ = some (.slice p2 t1.length c2) := xw1.cell (by first | (simp; done) | ((repeat rw [World.cell?_alloc_lt _ _ _ (by simp <;> omega)]); simp; done) | (go_simp; done))
  have z_b1 : w.heap.size < w1.heap.size := World.block_lt_of_cell? _ _ b10
  have s_w1 : w.heap.size ≤ w1.heap.size := Xw1.size
  clear xw1
  cases hB2 : holdB mem b1 s1 t1
  · replace hB2 := Lib.hid hB2
    go_wp2_with fail
    go_ret
    rw [show loadA mem b1 s1 t1 = [] by unfold loadA; rw [hB2.out]; rfl]
    exact PInts.no (Xw1.trans (by repeat (first | (with_reducible assumption) | (with_reducible refine Ext.setCell ?_ (by first | (simp; done) | (simp; omega) | omega) _) | (with_reducible apply Ext.alloc) | (with_reducible apply Ext.drew) | (with_reducible apply Ext.drewN) | (with_reducible exact Ext.refl _))))
  · replace hB2 := Lib.hid hB2
    go_wp2_with fail
    refine (load_c mem (.slice p0 mem.length c0) b1 (.slice p1 s1.length c1) (.slice p2 t1.length c2) s1 t1 _ _ _ _ (h0.ext (Xw1.trans (by repeat (first | (with_reducible assumption) | (with_reducible refine Ext.setCell ?_ (by first | (simp; done) | (simp; omega) | omega) _) | (with_reducible apply Ext.alloc) | (with_reducible apply Ext.drew) | (with_reducible apply Ext.drewN) | (with_reducible exact Ext.refl _))))) (h1.ext (Xw1.trans (by repeat (first | (with_reducible assumption) | (with_reducible refine Ext.setCell ?_ (by first | (simp; done) | (simp; omega) | omega) _) | (with_reducible apply Ext.alloc) | (with_reducible apply Ext.drew) | (with_reducible apply Ext.drewN) | (with_reducible exact Ext.refl _))))) (k1.ext (Xw1.trans (by repeat (first | (with_reducible assumption) | (with_reducible refine Ext.setCell ?_ (by first | (simp; done) | (simp; omega) | omega) _) | (with_reducible apply Ext.alloc) | (with_reducible apply Ext.drew) | (with_reducible apply Ext.drewN) | (with_reducible exact Ext.refl _))))) hB2.out).mono ?_
    rintro e w2 ⟨fv3, rfl, i4, i4z, xw2⟩
    have Lw2 : Ext w1 w2 := Ext.trans (by repeat (first | (with_reducible assumption) | (with_reducible refine Ext.setCell ?_ (by first | (simp; done) | (simp; omega) | omega) _) | (with_reducible apply Ext.alloc) | (with_reducible apply Ext.drew) | (with_reducible apply Ext.drewN) | (with_reducible exact Ext.refl _))) xw2
    have Xw2 : Ext w w2 := Xw1.trans Lw2
    replace b10 := Lw2.cell b10
    replace b11 := Lw2.cell b11
    replace b12 := Lw2.cell b12
    have z_b1 : w.heap.size < w2.heap.size := World.block_lt_of_cell? _ _ b10
    have s_w2 : w.heap.size ≤ w2.heap.size := Xw2.size
    clear xw2
    obtain ⟨afv3, cfv3, rfl⟩ := i4.form
    go_wp2_with fail
    go_ret
    rw [show loadA mem b1 s1 t1 = loadL mem b1 s1 t1 by unfold loadA; rw [hB2.out]; rfl]
    exact ⟨_, rfl, i4.lower (by omega), i4z.lower (by omega), Xw2⟩


end Go.Proofs.Ytnjaidgifccgjaa

/- Walks: helpers of the laws. -/
namespace Go.Proofs.Ytnjaidgifccgjaa
open Go.RowKit
set_option linter.unusedVariables false
set_option maxRecDepth 100000

set_option maxHeartbeats 1600000 in
theorem takes_c (xs ix : List Int) (a b : Value) (w : World) (la lb : Nat) (ha : Ints w la a xs) (hb : Ints w lb b ix) (hin : ∀ i ∈ ix, 0 ≤ i ∧ i < xs.length) :
    Calls Try.prog 37 #[a, b] w (PInts w (takL xs ix)) := by
  obtain ⟨a1, c1, rfl⟩ := ha.form
  obtain ⟨a2, c2, rfl⟩ := hb.form
  have hlen := hb.len
  replace hin := Lib.hid hin
  go_enter Try.func37, Try.ntmps37
  go_wp2_with fail
  go_loopw [5, 6] (fun v i wr => ∃ k : Nat, k ≤ ix.length ∧ i = .int .i64 k ∧ OwnI wr w.heap.size v (takL xs (ix.take k)) ∧ Ext w wr) (fun _ i _ => ix.length - (intOf i).toNat)
  case atStart => exact ⟨0, Nat.zero_le _, rfl, OwnI.lit0 w w.heap.size (Nat.le_refl _), (by repeat (first | exact Ext.refl _ | assumption | apply Ext.drewN | apply Ext.drew | apply Ext.alloc))⟩
  case round =>
    obtain ⟨k, hk, rfl, ho, hx⟩ := hrel
    have hz := hx.size
    have hl := Lib.hid (takL_len xs (ix.take k))
    by_cases hlt : k < ix.length
    · obtain ⟨_, _, hv, _, _, _, hc⟩ := hb.ext hx
      cases hv
      obtain ⟨b1, off1, rfl, _, hcell, _⟩ := hc k hlt
      have g : ix.getD k 0 = ix[k] := by simp [hlt]
      have hs := takL_take xs ix k hlt
      obtain ⟨i1, i2⟩ := hin.out _ (List.getElem_mem hlt)
      obtain ⟨j, hj⟩ : ∃ j : Nat, ix[k] = j := ⟨_, (Int.toNat_of_nonneg i1).symm⟩
      rw [g, hj] at hcell
      rw [hj] at hs i2
      have hjl : j < xs.length := by omega
      obtain ⟨_, _, hv, _, _, _, hc'⟩ := ha.ext hx
      cases hv
      obtain ⟨b2, off2, rfl, _, hcell2, _⟩ := hc' j hjl
      have g2 : xs.getD j 0 = xs[j] := by simp [hjl]
      rw [g2] at hcell2
      have hs' := Lib.hid (show takL xs (ix.take (k+1)) = takL xs (ix.take k) ++ [xs[j]] by rw [hs]; simp [hjl])
      clear hc hc' g g2 hj hs i1
      go_wp2_with (at_builtin; refine wpList_app rfl (.tmp 14) (.tmp 22) rfl rfl rfl (ho.ext ((Ext.refl _).alloc _)) (Ints.one _ 0 _ (Nat.zero_le _)) (by have := hl.out; simp only [List.length_cons, List.length_nil, List.length_take] at this ⊢; omega) (by simp; omega) ?_)
      intro v' w3 ho3 _ hb3 _
      have hx3 := (hx.alloc (.cells #[.int .i64 xs[j]] 3)).below hb3 (by omega)
      clear hb3 ho
      replace ho3 := Lib.hid ho3
      go_wp2_with fail
      go_roundw
      case rel => exact ⟨k+1, by omega, by go_num, by rw [hs'.out]; exact ho3.out, hx3⟩
      case measure => simp [intOf]; omega
    · obtain rfl : k = ix.length := by omega
      replace ho := Lib.hid ho
      go_wp2_with fail
      go_ret
      exact PInts.mk (by have := ho.out; rw [List.take_length] at this; exact this) (Nat.le_refl _) (by rw [takL_len]; omega) hx


set_option maxHeartbeats 1600000 in
theorem lupTo_c (n : Nat) (w : World) (hn : n ≤ 1000) :
    Calls Try.prog 53 #[.int .i64 (n : Int)] w (PInts w (upL n)) := by
  go_enter Try.func53, Try.ntmps53
  go_wp2_with fail
  go_loopw [3, 4] (fun v i wr => ∃ k : Nat, k ≤ n ∧ i = .int .i64 k ∧ OwnI wr w.heap.size v (upL k) ∧ Ext w wr) (fun _ i _ => n - (intOf i).toNat)
  case atStart => exact ⟨0, Nat.zero_le _, rfl, OwnI.lit0 w w.heap.size (Nat.le_refl _), (by repeat (first | exact Ext.refl _ | assumption | apply Ext.drewN | apply Ext.drew | apply Ext.alloc))⟩
  case round =>
    obtain ⟨k, hk, rfl, ho, hx⟩ := hrel
    have hz := hx.size
    have hl : (upL k).length = k := by simp [upL]
    by_cases hlt : k < n
    · have hI : (k : Int) < n := by omega
      have hs := Lib.hid (upL_succ k)
      go_wp2_with (at_builtin; refine wpList_app rfl (.tmp 11) (.tmp 13) rfl rfl rfl (ho.ext ((Ext.refl _).alloc _)) (Ints.one _ 0 _ (Nat.zero_le _)) (by simp only [List.length_cons, List.length_nil]; omega) (by simp; omega) ?_)
      intro v' w3 ho3 _ hb3 _
      have hx3 := (hx.alloc (.cells #[.int .i64 (k : Int)] 3)).below hb3 (by omega)
      clear hb3 ho
      replace ho3 := Lib.hid ho3
      go_wp2_with fail
      go_roundw
      case rel => exact ⟨k+1, by omega, by go_num, by rw [hs.out]; exact ho3.out, hx3⟩
      case measure => simp [intOf]; omega
    · obtain rfl : k = n := by omega
      replace ho := Lib.hid ho
      go_wp2_with fail
      go_ret
      exact PInts.mk ho.out (Nat.le_refl _) (by omega) hx


theorem back_take (xs : List Int) (k : Nat) (h : k < xs.length) : (xs.drop k).reverse = (xs.drop (k+1)).reverse ++ [xs.getD k 0] := by
  rw [List.drop_eq_getElem_cons h, List.reverse_cons]; simp [h]
set_option maxHeartbeats 1600000 in
theorem back_c (xs : List Int) (v : Value) (w : World) (lo : Nat) (hv : Ints w lo v xs) :
    Calls Try.prog 52 #[v] w (PInts w xs.reverse) := by
  have hl4 := hv.len
  have hrl : xs.reverse.length = xs.length := by simp
  replace hrl := Lib.hid hrl
  obtain ⟨a1, c1, rfl⟩ := hv.form
  go_enter Try.func52, Try.ntmps52
  go_wp2_with fail
  go_loopw [3, 4] (fun v i wr => ∃ k : Nat, k ≤ xs.length ∧ i = .int .i64 ((k : Int) - 1) ∧ OwnI wr w.heap.size v (xs.drop k).reverse ∧ Ext w wr) (fun _ i _ => (intOf i + 1).toNat)
  case atStart => exact ⟨xs.length, Nat.le_refl _, rfl, by rw [List.drop_length]; exact OwnI.lit0 w w.heap.size (Nat.le_refl _), (by repeat (first | exact Ext.refl _ | assumption | apply Ext.drewN | apply Ext.drew | apply Ext.alloc))⟩
  case round =>
    obtain ⟨k, hk, rfl, ho, hx⟩ := hrel
    have hz := hx.size
    have hl := Lib.hid (show (xs.drop k).reverse.length = xs.length - k by simp)
    by_cases hlt : 0 < k
    · obtain ⟨j, rfl⟩ : ∃ j, k = j + 1 := ⟨k - 1, by omega⟩
      have hI : (0 : Int) ≤ ((j + 1 : Nat) : Int) - 1 := by omega
      have hs := Lib.hid (back_take xs j (by omega))
      obtain ⟨b2, off2, rfl, hcell2⟩ := (hv.ext hx).at j (by omega)
      have hj : (((j + 1 : Nat) : Int) - 1) = (j : Int) := by omega
      rw [hj]
      generalize xs.getD j 0 = x at *
      have hI2 : (j : Int) < xs.length := by omega
      clear hI hj
      go_wp2_with (at_builtin; refine wpList_app rfl (.tmp 13) (.tmp 18) rfl rfl rfl (ho.ext ((Ext.refl _).alloc _)) (Ints.one _ 0 _ (Nat.zero_le _)) (by have := hl.out; simp only [List.length_cons, List.length_nil]; omega) (by simp; omega) ?_)
      intro v' w3 ho3 _ hb3 _
      have hx3 := (hx.alloc (.cells #[.int .i64 x] 3)).below hb3 (by omega)
      clear hb3 ho hcell2
      replace ho3 := Lib.hid ho3
      go_wp2_with fail
      go_roundw
      case rel => exact ⟨j, by omega, rfl, by rw [hs.out]; exact ho3.out, hx3⟩
      case measure => simp [intOf]
    · obtain rfl : k = 0 := by omega
      replace ho := Lib.hid ho
      go_wp2_with fail
      go_ret
      exact PInts.mk (by have := ho.out; rw [List.drop_zero] at this; exact this) (Nat.le_refl _) (by rw [hrl.out]; omega) hx

/-- the sum of numbers -/
def sumL (xs : List Int) : Int := xs.foldl (· + ·) 0
theorem sumL_take (xs : List Int) (k : Nat) (h : k < xs.length) : sumL (xs.take (k+1)) = sumL (xs.take k) + xs.getD k 0 := by
  unfold sumL; rw [List.take_succ_eq_append_getElem h, List.foldl_append]; simp [h]
theorem sumL_bd (xs : List Int) (h : ∀ x ∈ xs, -1000000 ≤ x ∧ x ≤ 1000000) : -(1000000 * (xs.length : Int)) ≤ sumL xs ∧ sumL xs ≤ 1000000 * (xs.length : Int) := by
  have key : ∀ (ys : List Int) (a : Int), (∀ x ∈ ys, -1000000 ≤ x ∧ x ≤ 1000000) → a - 1000000 * (ys.length : Int) ≤ ys.foldl (· + ·) a ∧ ys.foldl (· + ·) a ≤ a + 1000000 * (ys.length : Int) := by
    intro ys
    induction ys with
    | nil => intro a _; simp
    | cons y r ih =>
      intro a hy
      have h1 := hy y (by simp)
      have h2 := ih (a + y) (fun x hx => hy x (by simp [hx]))
      simp only [List.foldl_cons, List.length_cons]
      omega
  have := key xs 0 h
  unfold sumL; omega
set_option maxHeartbeats 1600000 in
theorem total_c (xs : List Int) (v : Value) (w : World) (lo : Nat) (hv : Ints w lo v xs) (hb : ∀ x ∈ xs, -1000000 ≤ x ∧ x ≤ 1000000) :
    Calls Try.prog 54 #[v] w fun e w' => e = .returned (.int .i64 (sumL xs)) ∧ w = w' := by
  have hl4 := hv.len
  obtain ⟨a1, c1, rfl⟩ := hv.form
  replace hb := Lib.hid hb
  go_enter Try.func54, Try.ntmps54
  go_wp2_with fail
  go_loop [3, 4] (fun n i => ∃ k : Nat, k ≤ xs.length ∧ i = .int .i64 k ∧ n = .int .i64 (sumL (xs.take k))) (fun _ i => xs.length - (intOf i).toNat)
  case atStart => exact ⟨0, Nat.zero_le _, rfl, rfl⟩
  case round =>
    obtain ⟨k, hk, rfl, rfl⟩ := hrel
    by_cases hlt : k < xs.length
    · have hI : (k : Int) < xs.length := by omega
      obtain ⟨b2, off2, rfl, hcell2⟩ := hv.at k hlt
      have hs := sumL_take xs k hlt
      have h1 := sumL_bd (xs.take k) (fun x hx => hb.out x (List.mem_of_mem_take hx))
      have h2 := hb.out (xs.getD k 0) (by simp [hlt])
      have h3 : (xs.take k).length = k := by simp; omega
      rw [h3] at h1
      generalize xs.getD k 0 = x at *
      generalize hy : sumL (xs.take k) = y at *
      replace hs := Lib.hid hs
      clear h3
      replace hy := Lib.hid hy
      go_wp2_with fail
      go_round
      case rel => exact ⟨k+1, by omega, by go_num, by rw [hs.out]⟩
      case measure => simp [intOf]; omega
    · obtain rfl : k = xs.length := by omega
      go_wp2_with fail
      go_ret
      exact ⟨rfl, rfl⟩

theorem implValidMemory_c (xs : List Int) (v : Value) (w : World) (lo : Nat) (hv : Ints w lo v xs) :
    Calls Try.prog 36 #[v] w fun e w' => e = .returned (.bool (memB xs)) ∧ w = w' := by
  obtain ⟨a1, c1, rfl⟩ := hv.form
  go_enter Try.func36, Try.ntmps36
  go_wp2_with fail
  refine (isMemory_c xs _ _ _ hv).mono ?_
  rintro e w' ⟨rfl, rfl⟩
  go_wp2_with fail
  go_ret
  exact ⟨rfl, rfl⟩

theorem leqInts_e (xs ys : List Int) (a b : Value) (w : World) (la lb : Nat) (ha : Ints w la a xs) (hb : Ints w lb b ys) (he : xs = ys) :
    Calls Try.prog 20 #[a, b] w fun e w' => e = .returned (.bool true) ∧ Ext w w' := by
  subst he; exact leqInts_c xs a b w la lb ha hb
theorem leqView_e (b1 b2 : Int) (u1 v1 u2 v2 : Value) (s1 t1 s2 t2 : List Int) (w : World) (l1 m1 l2 m2 : Nat) (h1 : Ints w l1 u1 s1) (k1 : Ints w m1 v1 t1) (h2 : Ints w l2 u2 s2) (k2 : Ints w m2 v2 t2) (he : b1 = b2 ∧ s1 = s2 ∧ t1 = t2) :
    Calls Try.prog 46 #[.agg #[.int .i64 b1, u1, v1], .agg #[.int .i64 b2, u2, v2]] w fun e w' => e = .returned (.bool true) ∧ Ext w w' := by
  obtain ⟨rfl, rfl, rfl⟩ := he; exact leqView_c b1 u1 v1 u2 v2 s1 t1 w l1 m1 l2 m2 h1 k1 h2 k2

end Go.Proofs.Ytnjaidgifccgjaa

/- FnLoadView returns true for all bytes: no condition. -/
namespace Go.Proofs.Ytnjaidgifccgjaa
open Go.RowKit
set_option linter.unusedVariables false
set_option maxRecDepth 100000


theorem load_law {mem : List Int} {b : Int} {s t : List Int} (h1 : memB mem = true) (h2 : fitA b s t (mem.length : Int) = true) : loadA mem b s t = takL mem (offA b s t) ∧ ∀ i ∈ offA b s t, 0 ≤ i ∧ i < mem.length := by
  unfold fitA at h2
  simp only [Bool.and_eq_true] at h2
  obtain ⟨h3, h4, h5⟩ := h2
  have hh : holdB mem b s t = true := by unfold holdB; rw [h1, h3, h5]; rfl
  have e : offA b s t = offsL b s t := by unfold offA; rw [if_pos h3]
  rw [e]
  exact ⟨by unfold loadA; rw [if_pos hh]; rfl, (hold_in hh).2.2⟩

set_option maxHeartbeats 3200000 in
theorem lawFnLoadView_c (a : Option Addr) (n cap : Nat) (w : World) (hb : BysIn w a n cap) :
    Calls Try.prog 8 #[.slice a n cap] w fun e w' => e = .returned (.bool true) ∧ Ext w w' := by
  have hcm := hb.1
  have hcm2 := hb.2.1
  unfold maxLen at hcm2
  go_enter Try.func8, Try.ntmps8
  by_cases hc1 : (1048576 : Int) < (n : Int)
  · go_wp2_with fail
    go_ret
    exact ⟨rfl, (by repeat (first | exact Ext.refl _ | assumption | apply Ext.drewN | apply Ext.drew | apply Ext.alloc))⟩
  · go_wp2_with fail
    refine (drawLoadView_c a n cap _ hb).mono ?_
    rintro e w1 ⟨⟨mem, p0, n0, r0, b, s, t, p1, p2, n1, r1, n2, r2, rfl, l0, i0, i1, i2, l1, l2⟩, xw1⟩
    have Lw1 : Ext w w1 := Ext.trans (by repeat (first | (with_reducible assumption) | (with_reducible refine Ext.setCell ?_ (by first | (simp; done) | (simp; omega) | omega) _) | (with_reducible apply Ext.alloc) | (with_reducible apply Ext.drew) | (with_reducible apply Ext.drewN) | (with_reducible exact Ext.refl _))) xw1
    have Xw1 : Ext w w1 := Lw1
    have s_w1 : w.heap.size ≤ w1.heap.size := Xw1.size
    clear xw1
    obtain rfl := i0.len_eq
    obtain rfl := i1.len_eq
    obtain rfl := i2.len_eq
    clear hb
    go_wp2_with fail
    refine (implLoadView_c mem (.slice p0 mem.length r0) b (.slice p1 s.length r1) (.slice p2 t.length r2) s t _ _ _ _ (i0.ext (by repeat (first | (with_reducible assumption) | (with_reducible refine Ext.setCell ?_ (by first | (simp; done) | (simp; omega) | omega) _) | (with_reducible apply Ext.alloc) | (with_reducible apply Ext.drew) | (with_reducible apply Ext.drewN) | (with_reducible exact Ext.refl _)))) (i1.ext (by repeat (first | (with_reducible assumption) | (with_reducible refine Ext.setCell ?_ (by first | (simp; done) | (simp; omega) | omega) _) | (with_reducible apply Ext.alloc) | (with_reducible apply Ext.drew) | (with_reducible apply Ext.drewN) | (with_reducible exact Ext.refl _)))) (i2.ext (by repeat (first | (with_reducible assumption) | (with_reducible refine Ext.setCell ?_ (by first | (simp; done) | (simp; omega) | omega) _) | (with_reducible apply Ext.alloc) | (with_reducible apply Ext.drew) | (with_reducible apply Ext.drewN) | (with_reducible exact Ext.refl _))))).mono ?_
    rintro e w2 ⟨fv3, rfl, i4, -, xw2⟩
    have Lw2 : Ext w1 w2 := Ext.trans (by repeat (first | (with_reducible assumption) | (with_reducible refine Ext.setCell ?_ (by first | (simp; done) | (simp; omega) | omega) _) | (with_reducible apply Ext.alloc) | (with_reducible apply Ext.drew) | (with_reducible apply Ext.drewN) | (with_reducible exact Ext.refl _))) xw2
    have Xw2 : Ext w w2 := Xw1.trans Lw2
    have b20 : w2.cell? ⟨w1.heap.size, 0, none⟩ = some (.int .i64 b) := xw2.cell (by first | (simp; done) | ((repeat rw [World.cell?_alloc_lt _ _ _ (by simp <;> omega)]); simp; done) | (go_simp; done))
    have b21 : w2.cell? ⟨w1.heap.size, 1, none⟩ = some (.slice p1 s.length r1) := xw2.cell (by first | (simp; done) | ((repeat rw [World.cell?_alloc_lt _ _ _ (by simp <;> omega)]); simp; done) | (go_simp; done))
    have b22 : w2.cell? ⟨w1.heap.size, 2, none⟩ = some (.slice p2 t.length r2) := xw2.cell (by first | (simp; done) | ((repeat rw [World.cell?_alloc_lt _ _ _ (by simp <;> omega)]); simp; done) | (go_simp; done))
    have z_b2 : w1.heap.size < w2.heap.size := World.block_lt_of_cell? _ _ b20
    replace i0 := i0.ext Lw2
    replace i1 := i1.ext Lw2
    replace i2 := i2.ext Lw2
    have s_w2 : w.heap.size ≤ w2.heap.size := Xw2.size
    clear xw2
    obtain ⟨afv3, cfv3, rfl⟩ := i4.form
    go_wp2_with fail
    refine (specLoadView_c mem (.slice p0 mem.length r0) b (.slice p1 s.length r1) (.slice p2 t.length r2) s t _ _ _ _ (i0.ext (by repeat (first | (with_reducible assumption) | (with_reducible refine Ext.setCell ?_ (by first | (simp; done) | (simp; omega) | omega) _) | (with_reducible apply Ext.alloc) | (with_reducible apply Ext.drew) | (with_reducible apply Ext.drewN) | (with_reducible exact Ext.refl _)))) (i1.ext (by repeat (first | (with_reducible assumption) | (with_reducible refine Ext.setCell ?_ (by first | (simp; done) | (simp; omega) | omega) _) | (with_reducible apply Ext.alloc) | (with_reducible apply Ext.drew) | (with_reducible apply Ext.drewN) | (with_reducible exact Ext.refl _)))) (i2.ext (by repeat (first | (with_reducible assumption) | (with_reducible refine Ext.setCell ?_ (by first | (simp; done) | (simp; omega) | omega) _) | (with_reducible apply Ext.alloc) | (with_reducible apply Ext.drew) | (with_reducible apply Ext.drewN) | (with_reducible exact Ext.refl _))))).mono ?_
    rintro e w3 ⟨fv5, rfl, i6, -, xw3⟩
    have Lw3 : Ext w2 w3 := Ext.trans (by repeat (first | (with_reducible assumption) | (with_reducible refine Ext.setCell ?_ (by first | (simp; done) | (simp; omega) | omega) _) | (with_reducible apply Ext.alloc) | (with_reducible apply Ext.drew) | (with_reducible apply Ext.drewN) | (with_reducible exact Ext.refl _))) xw3
    have Xw3 : Ext w w3 := Xw2.trans Lw3
    replace b20 := Lw3.cell b20
    replace b21 := Lw3.cell b21
    replace b22 := Lw3.cell b22
    have z_b2 : w1.heap.size < w3.heap.size := World.block_lt_of_cell? _ _ b20
    replace i0 := i0.ext Lw3
    replace i1 := i1.ext Lw3
    replace i2 := i2.ext Lw3
    replace i4 := i4.ext Lw3
    have s_w3 : w.heap.size ≤ w3.heap.size := Xw3.size
    clear xw3
    obtain ⟨afv5, cfv5, rfl⟩ := i6.form
    go_wp2_with fail
    refine (leqInts_e (loadA mem b s t) (loadA mem b s t) (.slice afv3 ((loadA mem b s t).length) cfv3) (.slice afv5 ((loadA mem b s t).length) cfv5) _ _ _ (i4.ext (by repeat (first | (with_reducible assumption) | (with_reducible refine Ext.setCell ?_ (by first | (simp; done) | (simp; omega) | omega) _) | (with_reducible apply Ext.alloc) | (with_reducible apply Ext.drew) | (with_reducible apply Ext.drewN) | (with_reducible exact Ext.refl _)))) (i6.ext (by repeat (first | (with_reducible assumption) | (with_reducible refine Ext.setCell ?_ (by first | (simp; done) | (simp; omega) | omega) _) | (with_reducible apply Ext.alloc) | (with_reducible apply Ext.drew) | (with_reducible apply Ext.drewN) | (with_reducible exact Ext.refl _)))) rfl).mono ?_
    rintro e w4 ⟨rfl, xw4⟩
    have Lw4 : Ext w3 w4 := Ext.trans (by repeat (first | (with_reducible assumption) | (with_reducible refine Ext.setCell ?_ (by first | (simp; done) | (simp; omega) | omega) _) | (with_reducible apply Ext.alloc) | (with_reducible apply Ext.drew) | (with_reducible apply Ext.drewN) | (with_reducible exact Ext.refl _))) xw4
    have Xw4 : Ext w w4 := Xw3.trans Lw4
    replace b20 := Lw4.cell b20
    replace b21 := Lw4.cell b21
    replace b22 := Lw4.cell b22
    have z_b2 : w1.heap.size < w4.heap.size := World.block_lt_of_cell? _ _ b20
    replace i0 := i0.ext Lw4
    replace i1 := i1.ext Lw4
    replace i2 := i2.ext Lw4
    replace i4 := i4.ext Lw4
    replace i6 := i6.ext Lw4
    have s_w4 : w.heap.size ≤ w4.heap.size := Xw4.size
    clear xw4
    go_wp2_with fail
    refine (implValidMemory_c mem (.slice p0 mem.length r0) _ _ (i0.ext (by repeat (first | (with_reducible assumption) | (with_reducible refine Ext.setCell ?_ (by first | (simp; done) | (simp; omega) | omega) _) | (with_reducible apply Ext.alloc) | (with_reducible apply Ext.drew) | (with_reducible apply Ext.drewN) | (with_reducible exact Ext.refl _))))).mono ?_
    rintro e w' ⟨rfl, rfl⟩
    cases hB7 : memB mem
    · replace hB7 := Lib.hid hB7
      go_wp2_with fail
      refine (specLoadView_c mem (.slice p0 mem.length r0) b (.slice p1 s.length r1) (.slice p2 t.length r2) s t _ _ _ _ (i0.ext (by repeat (first | (with_reducible assumption) | (with_reducible refine Ext.setCell ?_ (by first | (simp; done) | (simp; omega) | omega) _) | (with_reducible apply Ext.alloc) | (with_reducible apply Ext.drew) | (with_reducible apply Ext.drewN) | (with_reducible exact Ext.refl _)))) (i1.ext (by repeat (first | (with_reducible assumption) | (with_reducible refine Ext.setCell ?_ (by first | (simp; done) | (simp; omega) | omega) _) | (with_reducible apply Ext.alloc) | (with_reducible apply Ext.drew) | (with_reducible apply Ext.drewN) | (with_reducible exact Ext.refl _)))) (i2.ext (by repeat (first | (with_reducible assumption) | (with_reducible refine Ext.setCell ?_ (by first | (simp; done) | (simp; omega) | omega) _) | (with_reducible apply Ext.alloc) | (with_reducible apply Ext.drew) | (with_reducible apply Ext.drewN) | (with_reducible exact Ext.refl _))))).mono ?_
      rintro e w5 ⟨fv8, rfl, i9, -, xw5⟩
      have Lw5 : Ext w4 w5 := Ext.trans (by repeat (first | (with_reducible assumption) | (with_reducible refine Ext.setCell ?_ (by first | (simp; done) | (simp; omega) | omega) _) | (with_reducible apply Ext.alloc) | (with_reducible apply Ext.drew) | (with_reducible apply Ext.drewN) | (with_reducible exact Ext.refl _))) xw5
      have Xw5 : Ext w w5 := Xw4.trans Lw5
      replace b20 := Lw5.cell b20
      replace b21 := Lw5.cell b21
      replace b22 := Lw5.cell b22
      have z_b2 : w1.heap.size < w5.heap.size := World.block_lt_of_cell? _ _ b20
      replace i0 := i0.ext Lw5
      replace i1 := i1.ext Lw5
      replace i2 := i2.ext Lw5
      replace i4 := i4.ext Lw5
      replace i6 := i6.ext Lw5
      have s_w5 : w.heap.size ≤ w5.heap.size := Xw5.size
      clear xw5
      obtain ⟨afv8, cfv8, rfl⟩ := i9.form
      go_wp2_with fail
      refine (leqInts_e (loadA mem b s t) (loadA mem b s t) (.slice afv3 ((loadA mem b s t).length) cfv3) (.slice afv8 ((loadA mem b s t).length) cfv8) _ _ _ (i4.ext (by repeat (first | (with_reducible assumption) | (with_reducible refine Ext.setCell ?_ (by first | (simp; done) | (simp; omega) | omega) _) | (with_reducible apply Ext.alloc) | (with_reducible apply Ext.drew) | (with_reducible apply Ext.drewN) | (with_reducible exact Ext.refl _)))) (i9.ext (by repeat (first | (with_reducible assumption) | (with_reducible refine Ext.setCell ?_ (by first | (simp; done) | (simp; omega) | omega) _) | (with_reducible apply Ext.alloc) | (with_reducible apply Ext.drew) | (with_reducible apply Ext.drewN) | (with_reducible exact Ext.refl _)))) rfl).mono ?_
      rintro e w6 ⟨rfl, xw6⟩
      have Lw6 : Ext w5 w6 := Ext.trans (by repeat (first | (with_reducible assumption) | (with_reducible refine Ext.setCell ?_ (by first | (simp; done) | (simp; omega) | omega) _) | (with_reducible apply Ext.alloc) | (with_reducible apply Ext.drew) | (with_reducible apply Ext.drewN) | (with_reducible exact Ext.refl _))) xw6
      have Xw6 : Ext w w6 := Xw5.trans Lw6
      replace b20 := Lw6.cell b20
      replace b21 := Lw6.cell b21
      replace b22 := Lw6.cell b22
      have z_b2 : w1.heap.size < w6.heap.size := World.block_lt_of_cell? _ _ b20
      replace i0 := i0.ext Lw6
      replace i1 := i1.ext Lw6
      replace i2 := i2.ext Lw6
      replace i4 := i4.ext Lw6
      replace i6 := i6.ext Lw6
      replace i9 := i9.ext Lw6
      have s_w6 : w.heap.size ≤ w6.heap.size := Xw6.size
      clear xw6
      go_wp2_with fail
      go_ret
      exact ⟨rfl, (Xw6.trans (by repeat (first | (with_reducible assumption) | (with_reducible refine Ext.setCell ?_ (by first | (simp; done) | (simp; omega) | omega) _) | (with_reducible apply Ext.alloc) | (with_reducible apply Ext.drew) | (with_reducible apply Ext.drewN) | (with_reducible exact Ext.refl _))))⟩
    · replace hB7 := Lib.hid hB7
      go_wp2_with fail
      refine (implFitsIn_c b (.slice p1 s.length r1) (.slice p2 t.length r2) s t (mem.length : Int) _ _ _ (i1.ext (by repeat (first | (with_reducible assumption) | (with_reducible refine Ext.setCell ?_ (by first | (simp; done) | (simp; omega) | omega) _) | (with_reducible apply Ext.alloc) | (with_reducible apply Ext.drew) | (with_reducible apply Ext.drewN) | (with_reducible exact Ext.refl _)))) (i2.ext (by repeat (first | (with_reducible assumption) | (with_reducible refine Ext.setCell ?_ (by first | (simp; done) | (simp; omega) | omega) _) | (with_reducible apply Ext.alloc) | (with_reducible apply Ext.drew) | (with_reducible apply Ext.drewN) | (with_reducible exact Ext.refl _))))).mono ?_
      rintro e w5 ⟨rfl, xw5⟩
      have Lw5 : Ext w4 w5 := Ext.trans (by repeat (first | (with_reducible assumption) | (with_reducible refine Ext.setCell ?_ (by first | (simp; done) | (simp; omega) | omega) _) | (with_reducible apply Ext.alloc) | (with_reducible apply Ext.drew) | (with_reducible apply Ext.drewN) | (with_reducible exact Ext.refl _))) xw5
      have Xw5 : Ext w w5 := Xw4.trans Lw5
      replace b20 := Lw5.cell b20
      replace b21 := Lw5.cell b21
      replace b22 := Lw5.cell b22
      have z_b2 : w1.heap.size < w5.heap.size := World.block_lt_of_cell? _ _ b20
      replace i0 := i0.ext Lw5
      replace i1 := i1.ext Lw5
      replace i2 := i2.ext Lw5
      replace i4 := i4.ext Lw5
      replace i6 := i6.ext Lw5
      have s_w5 : w.heap.size ≤ w5.heap.size := Xw5.size
      clear xw5
      cases hB10 : fitA b s t (mem.length : Int)
      · replace hB10 := Lib.hid hB10
        go_wp2_with fail
        refine (specLoadView_c mem (.slice p0 mem.length r0) b (.slice p1 s.length r1) (.slice p2 t.length r2) s t _ _ _ _ (i0.ext (by repeat (first | (with_reducible assumption) | (with_reducible refine Ext.setCell ?_ (by first | (simp; done) | (simp; omega) | omega) _) | (with_reducible apply Ext.alloc) | (with_reducible apply Ext.drew) | (with_reducible apply Ext.drewN) | (with_reducible exact Ext.refl _)))) (i1.ext (by repeat (first | (with_reducible assumption) | (with_reducible refine Ext.setCell ?_ (by first | (simp; done) | (simp; omega) | omega) _) | (with_reducible apply Ext.alloc) | (with_reducible apply Ext.drew) | (with_reducible apply Ext.drewN) | (with_reducible exact Ext.refl _)))) (i2.ext (by repeat (first | (with_reducible assumption) | (with_reducible refine Ext.setCell ?_ (by first | (simp; done) | (simp; omega) | omega) _) | (with_reducible apply Ext.alloc) | (with_reducible apply Ext.drew) | (with_reducible apply Ext.drewN) | (with_reducible exact Ext.refl _))))).mono ?_
        rintro e w6 ⟨fv11, rfl, i12, -, xw6⟩
        have Lw6 : Ext w5 w6 := Ext.trans (by repeat (first | (with_reducible assumption) | (with_reducible refine Ext.setCell ?_ (by first | (simp; done) | (simp; omega) | omega) _) | (with_reducible apply Ext.alloc) | (with_reducible apply Ext.drew) | (with_reducible apply Ext.drewN) | (with_reducible exact Ext.refl _))) xw6
        have Xw6 : Ext w w6 := Xw5.trans Lw6
        replace b20 := Lw6.cell b20
        replace b21 := Lw6.cell b21
        replace b22 := Lw6.cell b22
        have z_b2 : w1.heap.size < w6.heap.size := World.block_lt_of_cell? _ _ b20
        replace i0 := i0.ext Lw6
        replace i1 := i1.ext Lw6
        replace i2 := i2.ext Lw6
        replace i4 := i4.ext Lw6
        replace i6 := i6.ext Lw6
        have s_w6 : w.heap.size ≤ w6.heap.size := Xw6.size
        clear xw6
        obtain ⟨afv11, cfv11, rfl⟩ := i12.form
        go_wp2_with fail
        refine (leqInts_e (loadA mem b s t) (loadA mem b s t) (.slice afv3 ((loadA mem b s t).length) cfv3) (.slice afv11 ((loadA mem b s t).length) cfv11) _ _ _ (i4.ext (by repeat (first | (with_reducible assumption) | (with_reducible refine Ext.setCell ?_ (by first | (simp; done) | (simp; omega) | omega) _) | (with_reducible apply Ext.alloc) | (with_reducible apply Ext.drew) | (with_reducible apply Ext.drewN) | (with_reducible exact Ext.refl _)))) (i12.ext (by repeat (first | (with_reducible assumption) | (with_reducible refine Ext.setCell ?_ (by first | (simp; done) | (simp; omega) | omega) _) | (with_reducible apply Ext.alloc) | (with_reducible apply Ext.drew) | (with_reducible apply Ext.drewN) | (with_reducible exact Ext.refl _)))) rfl).mono ?_
        rintro e w7 ⟨rfl, xw7⟩
        have Lw7 : Ext w6 w7 := Ext.trans (by repeat (first | (with_reducible assumption) | (with_reducible refine Ext.setCell ?_ (by first | (simp; done) | (simp; omega) | omega) _) | (with_reducible apply Ext.alloc) | (with_reducible apply Ext.drew) | (with_reducible apply Ext.drewN) | (with_reducible exact Ext.refl _))) xw7
        have Xw7 : Ext w w7 := Xw6.trans Lw7
        replace b20 := Lw7.cell b20
        replace b21 := Lw7.cell b21
        replace b22 := Lw7.cell b22
        have z_b2 : w1.heap.size < w7.heap.size := World.block_lt_of_cell? _ _ b20
        replace i0 := i0.ext Lw7
        replace i1 := i1.ext Lw7
        replace i2 := i2.ext Lw7
        replace i4 := i4.ext Lw7
        replace i6 := i6.ext Lw7
        replace i12 := i12.ext Lw7
        have s_w7 : w.heap.size ≤ w7.heap.size := Xw7.size
        clear xw7
        go_wp2_with fail
        go_ret
        exact ⟨rfl, (Xw7.trans (by repeat (first | (with_reducible assumption) | (with_reducible refine Ext.setCell ?_ (by first | (simp; done) | (simp; omega) | omega) _) | (with_reducible apply Ext.alloc) | (with_reducible apply Ext.drew) | (with_reducible apply Ext.drewN) | (with_reducible exact Ext.refl _))))⟩
      · replace hB10 := Lib.hid hB10
        go_wp2_with fail
        refine (implOffsetsOf_c b (.slice p1 s.length r1) (.slice p2 t.length r2) s t _ _ _ (i1.ext (by repeat (first | (with_reducible assumption) | (with_reducible refine Ext.setCell ?_ (by first | (simp; done) | (simp; omega) | omega) _) | (with_reducible apply Ext.alloc) | (with_reducible apply Ext.drew) | (with_reducible apply Ext.drewN) | (with_reducible exact Ext.refl _)))) (i2.ext (by repeat (first | (with_reducible assumption) | (with_reducible refine Ext.setCell ?_ (by first | (simp; done) | (simp; omega) | omega) _) | (with_reducible apply Ext.alloc) | (with_reducible apply Ext.drew) | (with_reducible apply Ext.drewN) | (with_reducible exact Ext.refl _))))).mono ?_
        rintro e w6 ⟨fv13, rfl, i14, -, xw6⟩
        have Lw6 : Ext w5 w6 := Ext.trans (by repeat (first | (with_reducible assumption) | (with_reducible refine Ext.setCell ?_ (by first | (simp; done) | (simp; omega) | omega) _) | (with_reducible apply Ext.alloc) | (with_reducible apply Ext.drew) | (with_reducible apply Ext.drewN) | (with_reducible exact Ext.refl _))) xw6
        have Xw6 : Ext w w6 := Xw5.trans Lw6
        replace b20 := Lw6.cell b20
        replace b21 := Lw6.cell b21
        replace b22 := Lw6.cell b22
        have z_b2 : w1.heap.size < w6.heap.size := World.block_lt_of_cell? _ _ b20
        replace i0 := i0.ext Lw6
        replace i1 := i1.ext Lw6
        replace i2 := i2.ext Lw6
        replace i4 := i4.ext Lw6
        replace i6 := i6.ext Lw6
        have s_w6 : w.heap.size ≤ w6.heap.size := Xw6.size
        clear xw6
        obtain ⟨afv13, cfv13, rfl⟩ := i14.form
        go_wp2_with fail
        refine (takes_c mem (offA b s t) (.slice p0 mem.length r0) (.slice afv13 ((offA b s t).length) cfv13) _ _ _ (i0.ext (by repeat (first | (with_reducible assumption) | (with_reducible refine Ext.setCell ?_ (by first | (simp; done) | (simp; omega) | omega) _) | (with_reducible apply Ext.alloc) | (with_reducible apply Ext.drew) | (with_reducible apply Ext.drewN) | (with_reducible exact Ext.refl _)))) (i14.ext (by repeat (first | (with_reducible assumption) | (with_reducible refine Ext.setCell ?_ (by first | (simp; done) | (simp; omega) | omega) _) | (with_reducible apply Ext.alloc) | (with_reducible apply Ext.drew) | (with_reducible apply Ext.drewN) | (with_reducible exact Ext.refl _)))) (load_law hB7.out hB10.out).2).mono ?_
        rintro e w7 ⟨fv15, rfl, i16, -, xw7⟩
        have Lw7 : Ext w6 w7 := Ext.trans (by repeat (first | (with_reducible assumption) | (with_reducible refine Ext.setCell ?_ (by first | (simp; done) | (simp; omega) | omega) _) | (with_reducible apply Ext.alloc) | (with_reducible apply Ext.drew) | (with_reducible apply Ext.drewN) | (with_reducible exact Ext.refl _))) xw7
        have Xw7 : Ext w w7 := Xw6.trans Lw7
        replace b20 := Lw7.cell b20
        replace b21 := Lw7.cell b21
        replace b22 := Lw7.cell b22
        have z_b2 : w1.heap.size < w7.heap.size := World.block_lt_of_cell? _ _ b20
        replace i0 := i0.ext Lw7
        replace i1 := i1.ext Lw7
        replace i2 := i2.ext Lw7
        replace i4 := i4.ext Lw7
        replace i6 := i6.ext Lw7
        replace i14 := i14.ext Lw7
        have s_w7 : w.heap.size ≤ w7.heap.size := Xw7.size
        clear xw7
        obtain ⟨afv15, cfv15, rfl⟩ := i16.form
        go_wp2_with fail
        refine (leqInts_e (loadA mem b s t) (takL mem (offA b s t)) (.slice afv3 ((loadA mem b s t).length) cfv3) (.slice afv15 ((takL mem (offA b s t)).length) cfv15) _ _ _ (i4.ext (by repeat (first | (with_reducible assumption) | (with_reducible refine Ext.setCell ?_ (by first | (simp; done) | (simp; omega) | omega) _) | (with_reducible apply Ext.alloc) | (with_reducible apply Ext.drew) | (with_reducible apply Ext.drewN) | (with_reducible exact Ext.refl _)))) (i16.ext (by repeat (first | (with_reducible assumption) | (with_reducible refine Ext.setCell ?_ (by first | (simp; done) | (simp; omega) | omega) _) | (with_reducible apply Ext.alloc) | (with_reducible apply Ext.drew) | (with_reducible apply Ext.drewN) | (with_reducible exact Ext.refl _)))) (load_law hB7.out hB10.out).1).mono ?_
        rintro e w8 ⟨rfl, xw8⟩
        have Lw8 : Ext w7 w8 := Ext.trans (by repeat (first | (with_reducible assumption) | (with_reducible refine Ext.setCell ?_ (by first | (simp; done) | (simp; omega) | omega) _) | (with_reducible apply Ext.alloc) | (with_reducible apply Ext.drew) | (with_reducible apply Ext.drewN) | (with_reducible exact Ext.refl _))) xw8
        have Xw8 : Ext w w8 := Xw7.trans Lw8
        replace b20 := Lw8.cell b20
        replace b21 := Lw8.cell b21
        replace b22 := Lw8.cell b22
        have z_b2 : w1.heap.size < w8.heap.size := World.block_lt_of_cell? _ _ b20
        replace i0 := i0.ext Lw8
        replace i1 := i1.ext Lw8
        replace i2 := i2.ext Lw8
        replace i4 := i4.ext Lw8
        replace i6 := i6.ext Lw8
        replace i14 := i14.ext Lw8
        replace i16 := i16.ext Lw8
        have s_w8 : w.heap.size ≤ w8.heap.size := Xw8.size
        clear xw8
        go_wp2_with fail
        go_ret
        exact ⟨rfl, (Xw8.trans (by repeat (first | (with_reducible assumption) | (with_reducible refine Ext.setCell ?_ (by first | (simp; done) | (simp; omega) | omega) _) | (with_reducible apply Ext.alloc) | (with_reducible apply Ext.drew) | (with_reducible apply Ext.drewN) | (with_reducible exact Ext.refl _))))⟩


end Go.Proofs.Ytnjaidgifccgjaa

/- The law FnLoadView holds for all bytes: the call returns true, and its argument reads as it did. No condition. -/
namespace Go.Proofs.Ytnjaidgifccgjaa.rowFnLoadView
open Go.ChangeShapes Go.WideShapes Go.ChangeAt Go.RowKit
set_option linter.unusedVariables false

set_option maxHeartbeats 1000000 in
set_option maxRecDepth 100000 in
theorem lifted (os : Os) (started : os.Started) (H : Type) (enc : TypeId × Value → H) :
    ReturnsInHanded {} Try.checked os 8 .any (Rows.fnLoadViewSpec.pre6 enc Try.prog Try.f8 Rows.fnLoadViewRow.domain false) (Rows.fnLoadViewSpec.post enc Try.prog Try.f8 false true false false) := by
  refine returnsInHanded_of_change (C := Try.checked) own started (by kernel_rfl) Try.func8
    (ChangeSpec.witness6 (enc := enc) (C := Try.checked) false ⟨#[], #[.slice none 0 0], []⟩ 8 (by kernel_rfl) (by kernel_rfl) (by kernel_rfl) (by kernel_rfl)) ?_
  intro W base args ds gs before hval0 hW hcnd _
  have hval : ∀ (j : Nat) t v, Try.f8.params[j]? = some t → args[j]? = some v → Value.okWide Try.prog W .any base t v := hval0
  have hW' := hW
  obtain ⟨p, q, hA0, hV, rfl, hfz, hnd⟩ := hW
  have hA : DataW.TrodAll enc Try.prog W 0 (fun _ => true) true Try.f8.params.toList args.toList ds p := hA0
  rw [Try.params8] at hA hval
  obtain ⟨v0, vs0, d0, ds0, p0, q0, hargs0, rfl, rfl, h0, r0⟩ := trodAll_cons hA
  obtain ⟨rfl, rfl, rfl⟩ := trodAll_nil r0
  obtain rfl : args = #[v0] := by cases args; simp_all
  obtain ⟨rfl, rfl⟩ := trodVars_none hV
  obtain ⟨a0, len0, cap0, rfl⟩ := okWide_slice Try.underlying22 (hval 0 22 v0 rfl rfl)
  have k0 := h0
  have lt0 : ∀ x ∈ p0, x.block < W.heap.size := by obtain ⟨m, hm⟩ := k0; exact DataW.trod_lt m _ _ _ hm
  have w0 : BysIn W a0 len0 cap0 := by
    obtain ⟨fuel, hf⟩ := h0
    rcases open_ints Try.underlying22 Try.underlying5 (by kernel_rfl) hf with ⟨hcs, _⟩ | ⟨x, l, c, zs, hcs, _, hl, hm, hz, _, hcell, hwz⟩
    · simp [Value.cells] at hcs
      obtain ⟨rfl, rfl, rfl⟩ := hcs
      exact ⟨Nat.le_refl _, by simp, fun i hi => absurd hi (by simp)⟩
    · simp [Value.cells] at hcs
      obtain ⟨rfl, rfl, rfl⟩ := hcs
      have hzl : zs.length = cap0 := by simpa using hz
      exact bys_of_cells hl hm hzl hcell hwz
  clear hA0 hval0
  refine (lawFnLoadView_c a0 len0 cap0 W w0).mono fun e W' ⟨he, bel⟩ => ?_
  subst he
  exact ⟨_, rfl, _, _, _, [], _, [], hW', trodAll_mk1 (shut_bool Try.underlying4 _), (trodAll_cons_mk (Below.trod laidOut (by kernel_rfl) (of_decide_eq_true (by kernel_rfl)) k0 bel lt0) trodAll_mk0), rfl, Below.frame bel _, fun h => by cases h⟩

set_option maxHeartbeats 2000000 in
theorem closed : joinedFacts Try.checked.prog 8 Try.f8 Rows.fnLoadViewSpec Rows.fnLoadViewRow = true :=
  facts.all (by kernel_rfl) (by kernel_rfl) (by kernel_rfl) (by kernel_rfl) (by kernel_rfl) (by as_aux_lemma => kernel_rfl) (by as_aux_lemma => kernel_rfl) (by as_aux_lemma => kernel_rfl) (by as_aux_lemma => kernel_rfl)
    (by as_aux_lemma => kernel_rfl) (by as_aux_lemma => kernel_rfl) rfl rfl rfl rfl (by kernel_rfl) (by kernel_rfl) (by as_aux_lemma => kernel_rfl) (by as_aux_lemma => kernel_rfl)

theorem named : Try.pinned.checked.prog.funcNamed Rows.fnLoadViewRow.func = some 8 := by kernel_rfl

theorem over : Rows.fnLoadViewRow.holds Try.pinned (OpenSpec.ofChange Rows.fnLoadViewSpec) :=
  OpenClaim.holds_of_wide 8 Try.f8 rfl rfl rfl rfl rfl rfl rfl ⟨rfl, rfl, rfl, rfl, rfl⟩ rfl rfl rfl rfl rfl named Try.func8 closed
    (of_decide_eq_true (by kernel_rfl)) (by unfold Func.isWrapper; exact ⟨rfl, rfl⟩)
    (fun os started H enc _ => lifted os started H enc)

theorem proved : Rows.FnLoadViewSaid := over

end Go.Proofs.Ytnjaidgifccgjaa.rowFnLoadView
