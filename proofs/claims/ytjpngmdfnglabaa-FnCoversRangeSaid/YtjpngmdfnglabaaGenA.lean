/- Walks: the reader of the drawn arguments: its numbers. -/
import Derived.Test.YtjpngmdfnglabaaExM
import Derived.Test.YtjpngmdfnglabaaRg
import Derived.Deep.DeepCutAuto
import Derived.Deep.CutBlock
namespace Go.Proofs.Ytjpngmdfnglabaa
open Go.RowKit
set_option linter.unusedVariables false
set_option maxRecDepth 100000

/-- a slice of a few bytes, in blocks below hi -/
def Bys (w : World) (hi : Nat) (a : Option Addr) (n cap : Nat) : Prop :=
  n ≤ cap ∧ cap ≤ maxLen ∧ n ≤ 2000 ∧ ∀ i, i < n → ∃ b off x, a = some ⟨b, off, none⟩ ∧ b < hi ∧ w.cell? ⟨b, off + i, none⟩ = some (.int .u8 x) ∧ 0 ≤ x ∧ x < 256
/-- the reader at block rb, of which at most k numbers were asked -/
structure Rd (w : World) (rb k : Nat) : Prop where
  ex : ∃ a n cap p, (0 ≤ p ∧ p ≤ (k : Int)) ∧ w.cell? ⟨rb, 0, none⟩ = some (.slice a n cap) ∧ w.cell? ⟨rb, 1, none⟩ = some (.int .i64 p) ∧ w.frozen? ⟨rb, 1, none⟩ = false ∧ Bys w rb a n cap
theorem Bys.chg {w w' : World} {hi lo h2 : Nat} {a : Option Addr} {n cap : Nat} (h : Bys w hi a n cap) (k : Chg lo h2 w w') (hl : hi ≤ lo) : Bys w' hi a n cap := by
  obtain ⟨h1, h2, h3, h4⟩ := h
  refine ⟨h1, h2, h3, fun i hi => ?_⟩
  obtain ⟨b, off, x, ha, hb, hc, hx⟩ := h4 i hi
  exact ⟨b, off, x, ha, hb, k.cell (.inl (by omega)) hc, hx⟩
theorem Rd.ext {w w' : World} {rb k : Nat} (h : Rd w rb k) (hx : Ext w w') : Rd w' rb k := by
  obtain ⟨a, n, cap, p, hp, h0, h1, h2, hb⟩ := h.ex
  refine ⟨a, n, cap, p, hp, hx.cell h0, hx.cell h1, (hx.frule rb 1 (World.block_lt_of_cell? _ _ h1)).trans h2, ?_⟩
  obtain ⟨g1, g2, g3, g4⟩ := hb
  refine ⟨g1, g2, g3, fun i hi => ?_⟩
  obtain ⟨b, off, x, ha, hbb, hc, hxx⟩ := g4 i hi
  exact ⟨b, off, x, ha, hbb, hx.cell hc, hxx⟩
theorem Rd.mono {w : World} {rb k k' : Nat} (h : Rd w rb k) (hk : k ≤ k') : Rd w rb k' := by
  obtain ⟨a, n, cap, p, hp, r⟩ := h.ex
  exact ⟨a, n, cap, p, by omega, r⟩
theorem Rd.lt {w : World} {rb k : Nat} (h : Rd w rb k) : rb < w.heap.size := by
  obtain ⟨a, n, cap, p, hp, h0, _⟩ := h.ex
  exact World.block_lt_of_cell? _ _ h0
/-- cells of other blocks than the reader's -/
theorem Rd.chgO {w w' : World} {rb k lo hi : Nat} (h : Rd w rb k) (c : Chg lo hi w w') (hl : rb < lo) : Rd w' rb k := by
  obtain ⟨a, n, cap, p, hp, h0, h1, h2, hb⟩ := h.ex
  refine ⟨a, n, cap, p, hp, c.cell (.inl hl) h0, c.cell (.inl hl) h1, ?_, hb.chg c (by omega)⟩
  exact (World.frozen?_of_block (a := ⟨rb, 1, none⟩) (c.block rb (World.block_lt_of_cell? _ _ h1) (.inl hl))).trans h2

/-- a number comes back -/
def PNum (rb k : Nat) (p : Int → Prop) (w : World) (e : Ending) (w' : World) : Prop := ∃ x, e = .returned (.int .i64 x) ∧ p x ∧ Rd w' rb k ∧ Chg rb (rb + 1) w w'

theorem rd_put {w : World} {rb k : Nat} {a : Option Addr} {n cap : Nat} {p : Int} (hp : 0 ≤ p ∧ p ≤ (k : Int)) (h0 : w.cell? ⟨rb, 0, none⟩ = some (.slice a n cap)) (h1 : w.cell? ⟨rb, 1, none⟩ = some (.int .i64 p)) (h2 : w.frozen? ⟨rb, 1, none⟩ = false) (hb : Bys w rb a n cap) :
    Rd (w.setCell ⟨rb, 1, none⟩ (.int .i64 (p + 1))) rb (k + 1) ∧ Chg rb (rb + 1) w (w.setCell ⟨rb, 1, none⟩ (.int .i64 (p + 1))) := by
  have hc : Chg rb (rb + 1) w (w.setCell ⟨rb, 1, none⟩ (.int .i64 (p + 1))) := (Chg.refl _ _ _).setCell (p := ⟨rb, 1, none⟩) (Nat.le_refl rb) (Nat.lt_succ_self rb) _
  refine ⟨⟨a, n, cap, p + 1, by omega, ?_, ?_, ?_, hb.chg hc (Nat.le_refl _)⟩, hc⟩
  · refine (World.cell?_setCell_other _ _ _ _ ?_).trans h0
    simp
  · exact World.cell?_setCell_same _ _ _ h1
  · simpa using h2

theorem xor_bd (a b : Nat) (ha : a < 4611686018427387904) (hb : b < 4611686018427387904) : 0 ≤ bits .xor .i64 (a : Int) (b : Int) := by
  have h := Nat.xor_lt_two_pow (n := 62) (x := a) (y := b) (by omega) (by omega)
  have h1 : (BitVec.ofInt 64 (a : Int)).toNat = a := by
    rw [BitVec.ofInt_natCast, BitVec.toNat_ofNat]; exact Nat.mod_eq_of_lt (by omega)
  have h2 : (BitVec.ofInt 64 (b : Int)).toNat = b := by
    rw [BitVec.ofInt_natCast, BitVec.toNat_ofNat]; exact Nat.mod_eq_of_lt (by omega)
  show 0 ≤ IntKind.i64.wrap ((BitVec.ofInt 64 (a : Int) ^^^ BitVec.ofInt 64 (b : Int)).toNat : Int)
  rw [BitVec.toNat_xor, h1, h2, IntWalk.i64_in _ (by omega)]
  omega
theorem xor_num (x : Int) (h : 0 ≤ x) (h2 : x < 4611686018427387904) : 0 ≤ bits .xor .i64 x (x / 64) := by
  obtain ⟨n, rfl⟩ : ∃ n : Nat, x = n := ⟨x.toNat, by omega⟩
  have := xor_bd n (n / 64) (by omega) (by omega)
  simpa using this
theorem xor_mod (x n : Int) (h : 0 ≤ x) (h2 : x < 4611686018427387904) (hn : 1 ≤ n) : 0 ≤ (bits .xor .i64 x (x / 64)).tmod n ∧ (bits .xor .i64 x (x / 64)).tmod n < n := by
  have h1 := xor_num x h h2
  rw [Int.tmod_eq_emod_of_nonneg h1]
  exact ⟨Int.emod_nonneg _ (by omega), Int.emod_lt_of_pos _ (by omega)⟩

set_option maxHeartbeats 1600000 in
theorem pick_c (n : Int) (rb k : Nat) (w : World) (hr : Rd w rb k) (hk : k ≤ 1000000) :
    Calls Try.prog 61 #[.pointer (some ⟨rb, 0, none⟩), .int .i64 n] w (PNum rb (k + 1) (fun x => 0 ≤ x ∧ (x < n ∨ x = 0)) w) := by
  obtain ⟨a, m, cap, p, hp, h0, h1, h2, hb⟩ := hr.ex
  obtain ⟨hR, hC⟩ := rd_put hp h0 h1 h2 hb
  replace hR := Lib.hid hR
  replace hC := Lib.hid hC
  obtain ⟨b1, b2, b3, b4⟩ := hb
  obtain ⟨hp0, hp1⟩ := hp
  unfold maxLen at b2
  by_cases hn : n < 1
  · go_enter Try.func61, Try.ntmps61
    go_wp2_with fail
    go_ret
    exact ⟨0, rfl, ⟨by omega, .inr rfl⟩, hR.out, hC.out⟩
  · by_cases hm : m = 0
    · subst hm
      go_enter Try.func61, Try.ntmps61
      go_wp2_with fail
      go_ret
      exact ⟨0, rfl, ⟨by omega, .inr rfl⟩, hR.out, hC.out⟩
    · have hm0 : ((m : Int) == 0) = false := by simpa using hm
      obtain ⟨q, hq⟩ : ∃ q : Nat, p = q := ⟨p.toNat, by omega⟩
      subst hq
      by_cases hlt : q < m
      · obtain ⟨b, off, x, rfl, hbl, hcell, hx0, hx1⟩ := b4 q hlt
        have hne : b ≠ rb := by omega
        have hne2 : rb ≠ b := by omega
        have hI : (q : Int) < m := by omega
        have g1 := Int.emod_nonneg x (show n ≠ 0 by omega)
        have g2 := Int.emod_lt_of_pos x (show 0 < n by omega)
        go_enter Try.func61, Try.ntmps61
        go_wp2_with fail
        go_ret
        exact ⟨x % n, rfl, ⟨g1, .inl g2⟩, hR.out, hC.out⟩
      · have m0 : 0 < m := by omega
        have r1 := Nat.mod_lt q m0
        have r2 := Nat.mod_lt (q * 7 + 3) m0
        have r3 := Nat.div_le_self q m
        have e1 : ((q : Int)) % (m : Int) = ((q % m : Nat) : Int) := rfl
        have e2 : ((q : Int) * 7 + 3) % (m : Int) = (((q * 7 + 3) % m : Nat) : Int) := by simp
        have e3 : ((q : Int)) / (m : Int) = ((q / m : Nat) : Int) := rfl
        have t1 : ((q : Int)).tmod (m : Int) = ((q % m : Nat) : Int) := rfl
        have t2 : ((q : Int) * 7 + 3).tmod (m : Int) = (((q * 7 + 3) % m : Nat) : Int) := by rw [Int.tmod_eq_emod_of_nonneg (by omega)]; exact e2
        have t3 : ((q : Int)).tdiv (m : Int) = ((q / m : Nat) : Int) := rfl
        generalize q % m = i1 at *
        generalize (q * 7 + 3) % m = i2 at *
        generalize q / m = i3 at *
        obtain ⟨b, off, x, rfl, hbl, hcell, hx0, hx1⟩ := b4 i1 r1
        obtain ⟨_, _, y, he, hbl', hcell', hy0, hy1⟩ := b4 i2 r2
        cases he
        have hne : b ≠ rb := by omega
        have hne2 : rb ≠ b := by omega
        have hI : ¬ (q : Int) < m := by omega
        have hI1 : (i1 : Int) < m := by omega
        have hI2 : (i2 : Int) < m := by omega
        clear hI b4
        go_enter Try.func61, Try.ntmps61
        go_wp2_with fail
        go_quiet (fail)
        go_wp2_with fail
        go_ret
        have hf := xor_mod (x * 131 + y * 1117 + (q : Int) * 29 + (i3 : Int) * 53) n (by omega) (by omega) (by omega)
        exact ⟨_, rfl, ⟨hf.1, .inl hf.2⟩, hR.out.ext (by repeat (first | exact Ext.refl _ | assumption | apply Ext.drewN | apply Ext.drew | apply Ext.alloc)), hC.out.ext (by repeat (first | exact Ext.refl _ | assumption | apply Ext.drewN | apply Ext.drew | apply Ext.alloc))⟩

/-- one of the numbers of a list -/
theorem one_c (xs : List Int) (v : Value) (lo rb k : Nat) (w : World) (hr : Rd w rb k) (hk : k ≤ 1000000) (hv : Ints w lo v xs) (hlo : rb < lo) (hn : xs ≠ []) :
    Calls Try.prog 65 #[.pointer (some ⟨rb, 0, none⟩), v] w (PNum rb (k + 1) (fun x => x ∈ xs) w) := by
  obtain ⟨a, c, rfl⟩ := hv.form
  have hpos : 0 < xs.length := List.length_pos_iff.2 hn
  go_enter Try.func65, Try.ntmps65
  go_wp2_with fail
  refine (pick_c _ rb k _ hr hk).mono ?_
  rintro e w' ⟨x, rfl, ⟨hx0, hx1⟩, hR, hC⟩
  obtain ⟨j, rfl⟩ : ∃ j : Nat, x = j := ⟨x.toNat, by omega⟩
  have hj : j < xs.length := by omega
  obtain ⟨_, _, hv', _, _, _, hc⟩ := hv.chg hC hlo
  cases hv'
  obtain ⟨b, off, rfl, _, hcell, _⟩ := hc j hj
  have g : xs.getD j 0 = xs[j] := by simp [hj]
  rw [g] at hcell
  have hm : xs[j] ∈ xs := List.getElem_mem hj
  clear hc g hx1
  replace hR := Lib.hid hR
  replace hC := Lib.hid hC
  go_wp2_with fail
  go_ret
  exact ⟨_, rfl, hm, hR.out, hC.out⟩


theorem Ints.lit (w : World) (xs : List Int) (cs : Array Value) (n : Nat) (h : cs.toList = xs.map (Value.int .i64)) (hn : n = xs.length) (hs : xs.length ≤ 100) : Ints (w.alloc (.cells cs 3)) w.heap.size (.slice (some ⟨w.heap.size, 0, none⟩) n n) xs := by
  subst hn
  have hsz : cs.size = xs.length := by rw [← Array.length_toList, h, List.length_map]
  have := World.ownsRow_lit (base := w.heap.size) (e := 3) (size := 1) w cs xs.length (Nat.le_refl _) (by unfold maxLen; omega) (by omega)
  rw [h] at this
  exact Ints.of_own this (by omega)

/-- the bytes that the law was called with -/
def BysIn (w : World) (a : Option Addr) (n cap : Nat) : Prop :=
  n ≤ cap ∧ cap ≤ maxLen ∧ ∀ i, i < n → ∃ b off x, a = some ⟨b, off, none⟩ ∧ w.cell? ⟨b, off + i, none⟩ = some (.int .u8 x) ∧ 0 ≤ x ∧ x < 256
theorem BysIn.bys {w : World} {a : Option Addr} {n cap m : Nat} (h : BysIn w a n cap) (hm : m ≤ n) (h2 : m ≤ 2000) : Bys w w.heap.size a m cap := by
  obtain ⟨h3, h4, h5⟩ := h
  refine ⟨by omega, h4, h2, fun i hi => ?_⟩
  obtain ⟨b, off, x, ha, hc, hx⟩ := h5 i (by omega)
  exact ⟨b, off, x, ha, World.block_lt_of_cell? _ _ hc, hc, hx⟩

set_option maxHeartbeats 1600000 in
theorem newReader_c (a : Option Addr) (n cap : Nat) (w : World) (hb : BysIn w a n cap) :
    Calls Try.prog 46 #[.slice a n cap] w (fun e w' => e = .returned (.pointer (some ⟨w.heap.size, 0, none⟩)) ∧ Rd w' w.heap.size 0 ∧ Ext w w') := by
  have hb0 := hb
  obtain ⟨h1, h2, _⟩ := hb
  by_cases h : n ≤ 2000
  · have hB := Lib.hid (hb0.bys (Nat.le_refl _) h)
    have hI : ¬ (2000 : Int) < n := by omega
    go_enter Try.func46, Try.ntmps46
    go_wp2_with fail
    go_ret
    refine ⟨rfl, ⟨a, n, cap, 0, by omega, by simp, by simp, by simp, ?_⟩, (by repeat (first | exact Ext.refl _ | assumption | apply Ext.drewN | apply Ext.drew | apply Ext.alloc))⟩
    obtain ⟨g1, g2, g3, g4⟩ := hB.out
    refine ⟨g1, g2, g3, fun i hi => ?_⟩
    obtain ⟨b, off, x, ha, hbb, hc, hx⟩ := g4 i hi
    exact ⟨b, off, x, ha, hbb, ((Ext.refl w).alloc _).cell hc, hx⟩
  · have hB := Lib.hid (hb0.bys (m := 2000) (by omega) (Nat.le_refl _))
    have hI : (2000 : Int) < n := by omega
    have hc1 : (2000 : Int) ≤ cap := by omega
    go_enter Try.func46, Try.ntmps46
    go_wp2_with fail
    go_ret
    refine ⟨rfl, ⟨a, 2000, cap, 0, by omega, by simp, by simp, by simp, ?_⟩, (by repeat (first | exact Ext.refl _ | assumption | apply Ext.drewN | apply Ext.drew | apply Ext.alloc))⟩
    obtain ⟨g1, g2, g3, g4⟩ := hB.out
    refine ⟨g1, g2, g3, fun i hi => ?_⟩
    obtain ⟨b, off, x, ha, hbb, hc, hx⟩ := g4 i hi
    exact ⟨b, off, x, ha, hbb, ((Ext.refl w).alloc _).cell hc, hx⟩

theorem Rd.alloc {w : World} {rb k : Nat} (h : Rd w rb k) (o : Obj) : Rd (w.alloc o) rb k := h.ext ((Ext.refl _).alloc _)
theorem Rd.drew {w : World} {rb k : Nat} (h : Rd w rb k) : Rd w.drew rb k := h.ext ((Ext.refl _).drew)
theorem Rd.drewN {w : World} {rb k : Nat} (h : Rd w rb k) (n : Nat) : Rd (w.drewN n) rb k := h.ext ((Ext.refl _).drewN n)
theorem Rd.set {w : World} {rb k : Nat} {a : Addr} (h : Rd w rb k) (ha : rb < a.block) (u : Value) : Rd (w.setCell a u) rb k :=
  h.chgO ((Chg.refl a.block (a.block + 1) w).setCell (p := a) (Nat.le_refl _) (Nat.lt_succ_self _) u) ha
theorem Rd.set2 {w : World} {rb k : Nat} {a : Addr} {u : Value} (ha : rb < a.block) (h : Rd w rb k) : Rd (w.setCell a u) rb k := h.set ha u
/-- what was there before, but the reader, is as it was -/
def Rch (rb : Nat) (w w' : World) : Prop := Chg rb (rb + 1) w w'
theorem Rch.refl (rb : Nat) (w : World) : Rch rb w w := Chg.refl _ _ _
theorem Rch.step {rb : Nat} {w a b : World} (h : Rch rb w a) (k : Chg rb (rb + 1) a b) : Rch rb w b := Chg.trans h k
theorem Rch.alloc {rb : Nat} {w w' : World} (h : Rch rb w w') (o : Obj) : Rch rb w (w'.alloc o) := Chg.ext h ((Ext.refl _).alloc _)
theorem Rch.drew {rb : Nat} {w w' : World} (h : Rch rb w w') : Rch rb w w'.drew := Chg.ext h ((Ext.refl _).drew)
theorem Rch.drewN {rb : Nat} {w w' : World} (h : Rch rb w w') (n : Nat) : Rch rb w (w'.drewN n) := Chg.ext h ((Ext.refl _).drewN n)
theorem Rch.ext {rb : Nat} {w w' w'' : World} (h : Rch rb w w') (k : Ext w' w'') : Rch rb w w'' := Chg.ext h k
theorem Rch.set {rb : Nat} {w w' : World} (h : Rch rb w w') {a : Addr} (ha : w.heap.size ≤ a.block) (u : Value) : Rch rb w (w'.setCell a u) :=
  ⟨h.os, h.tape, h.output, by simpa using h.size, fun k hk hd => (Below.heap_setCell _ _ _ _ (by omega)).trans (h.block k hk hd)⟩
theorem Rch.size {rb : Nat} {w w' : World} (h : Rch rb w w') : w.heap.size ≤ w'.heap.size := Chg.size h
theorem Rch.rule {rb : Nat} {w w' : World} (h : Chg rb (rb + 1) w w') : ∀ b o, rb < b → b < w.heap.size → w'.cell? ⟨b, o, none⟩ = w.cell? ⟨b, o, none⟩ := fun b o h1 h2 => World.cell?_of_block (a := ⟨b, o, none⟩) (h.block b h2 (.inr h1))
theorem Rch.frule {rb : Nat} {w w' : World} (h : Chg rb (rb + 1) w w') : ∀ b o, rb < b → b < w.heap.size → w'.frozen? ⟨b, o, none⟩ = w.frozen? ⟨b, o, none⟩ := fun b o h1 h2 => World.frozen?_of_block (a := ⟨b, o, none⟩) (h.block b h2 (.inr h1))

/-- the ints of a literal -/
def litL (cs : Array Value) : List Int := cs.toList.filterMap fun | .int .i64 x => some x | _ => none
def litB (cs : Array Value) : Bool := cs.toList.all fun | .int .i64 _ => true | _ => false
theorem litL_map {l : List Value} (h : (l.all fun | .int .i64 _ => true | _ => false) = true) : l = (l.filterMap fun | .int .i64 x => some x | _ => none).map (Value.int .i64) := by
  induction l with
  | nil => rfl
  | cons c l ih =>
    rw [List.all_cons, Bool.and_eq_true] at h
    have h2 := ih h.2
    have h1 := h.1
    split at h1
    · rw [List.filterMap_cons, List.map_cons, ← h2]
    · cases h1
theorem Ints.litB {w : World} {cs : Array Value} {n b : Nat} (h : litB cs = true) (hn : n = cs.size) (hs : cs.size ≤ 100) (hb : b = w.heap.size) : Ints (w.alloc (.cells cs 3)) w.heap.size (.slice (some ⟨b, 0, none⟩) n n) (litL cs) := by
  subst hb
  have e := litL_map h
  have hl : (litL cs).length = cs.size := by
    have := congrArg List.length e
    rw [List.length_map] at this
    rw [litL, ← this]; simp
  exact Ints.lit w (litL cs) cs n e (by omega) (by omega)

theorem oneLit_c (cs : Array Value) (n b rb k : Nat) (w : World) (hr : Rd w rb k) (hk : k ≤ 1000000) (h : litB cs = true) (hn : n = cs.size) (hs : 0 < cs.size ∧ cs.size ≤ 100) (hb : b = w.heap.size) :
    Calls Try.prog 65 #[.pointer (some ⟨rb, 0, none⟩), .slice (some ⟨b, 0, none⟩) n n] (w.alloc (.cells cs 3)) (PNum rb (k + 1) (fun x => x ∈ litL cs) (w.alloc (.cells cs 3))) := by
  have hi := Ints.litB (w := w) h hn hs.2 hb
  refine one_c (litL cs) _ w.heap.size rb k _ (hr.alloc _) hk hi hr.lt fun h0 => ?_
  have e := litL_map h
  have : cs.toList.length = 0 := by rw [e]; unfold litL at h0; rw [h0]; rfl
  simp at this
  have := hs.1
  simp_all

theorem pick1_c (n : Int) (rb k : Nat) (w : World) (hr : Rd w rb k) (hk : k ≤ 1000000) (hn : 1 ≤ n) :
    Calls Try.prog 61 #[.pointer (some ⟨rb, 0, none⟩), .int .i64 n] w (PNum rb (k + 1) (fun x => 0 ≤ x ∧ x < n) w) :=
  (pick_c n rb k w hr hk).mono fun _ _ ⟨x, h1, ⟨h2, h3⟩, h4⟩ => ⟨x, h1, ⟨h2, by omega⟩, h4⟩

/-- three numbers at a block -/
def RgAt (w : World) (g : Nat) : Prop := ∃ x y z : Int, w.cell? ⟨g, 0, none⟩ = some (.int .i64 x) ∧ w.cell? ⟨g, 1, none⟩ = some (.int .i64 y) ∧ w.cell? ⟨g, 2, none⟩ = some (.int .i64 z) ∧ w.frozen? ⟨g, 0, none⟩ = false ∧ w.frozen? ⟨g, 1, none⟩ = false ∧ w.frozen? ⟨g, 2, none⟩ = false
theorem RgAt.lt {w : World} {g : Nat} (h : RgAt w g) : g < w.heap.size := by obtain ⟨x, y, z, h, _⟩ := h; exact World.block_lt_of_cell? _ _ h

theorem Chg.frz0 {w w' : World} {lo hi : Nat} (h : Chg lo hi w w') {b o : Nat} (h1 : b < lo) (h2 : b < w.heap.size) : w'.frozen? ⟨b, o, none⟩ = w.frozen? ⟨b, o, none⟩ := World.frozen?_of_block (a := ⟨b, o, none⟩) (h.block b h2 (.inl h1))
theorem BysIn.ext {w w' : World} {a : Option Addr} {n cap : Nat} (h : BysIn w a n cap) (hx : Ext w w') : BysIn w' a n cap := by
  obtain ⟨h1, h2, h3⟩ := h
  refine ⟨h1, h2, fun i hi => ?_⟩
  obtain ⟨b, off, x, ha, hc, hx2⟩ := h3 i hi
  exact ⟨b, off, x, ha, hx.cell hc, hx2⟩

theorem Rch.toExt' {rb : Nat} {w0 w w' : World} (h : Chg rb (rb + 1) w w') (hb : w0.heap.size ≤ rb) (hx : Ext w0 w) : Ext w0 w' := hx.chg h hb

end Go.Proofs.Ytjpngmdfnglabaa
