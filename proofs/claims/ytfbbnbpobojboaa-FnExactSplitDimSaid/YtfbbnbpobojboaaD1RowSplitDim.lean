/- Texts of these proofs put together: Shelf, PureA, Lib, ViewD, ViewE, ViewF, PureB, ViewG, Lp, ExI, MemA, ExJ, ExD, ExG, RngA, PureC, ExK, ExL, ExM, SvA, SvB, SvC, PureV, PureW, PureX, PureY, RngB, RngC, SlA, PureZ, Rg, GenA, RgL, Kit, SvE, SvF, SvG, SvD, SvH, KitB, SvI, GenB, GenC, GenD, SvJ, KitC, DelA, InsA, KitD, DelB, LvA, LvB, LvF, LvE, LvH, LvG, PureM, LvI, LvJ, PureP, PureS, DelC, PureE, PureF, RsA. No condition. -/
import Derived.Shelf.Small.Bits
import Derived.Shelf.Strconv.Itoa0
import Derived.Shelf.Sort.Plain
import Derived.Shelf.Slices.Turned
import Derived.Shelf.Slices.Reverse
import Derived.Shelf.Slices.Equal
import Derived.Ground.Names2Prog
import Derived.Shelf.Slices.CompactI
import Derived.Shelf.Slices.SearchI
import Derived.Shelf.Slices.Cells
import Derived.Shelf.Slices.In.SortNone
import Derived.Shelf.Slices.Empties2
import Derived.Test.YtfbbnbpobojboaaProg
import Derived.Lib.SlicesCompact
import Derived.Test.YtfbbnbpobojboaaM1
import Derived.Sort.OwnSortedInts
import Derived.StillTail
import Derived.Deep.DeepCutAuto
import Derived.Deep.CutBlock
import Derived.Deep.RegionHeld3
import Derived.WalkKit
import Derived.StillTailTactics
import Derived.Shelf.Spec.SlicesInsertGrow
set_option linter.unusedVariables false
set_option linter.unusedSimpArgs false
/- The contracts of library functions, laid at this translation: no condition. -/
namespace Go.Proofs
open Go.Shelf
open Go.Sort Go.RowKit in
open Go.Lib in
open Go.Lib in
open Go.Lib in
open Go.Lib in
open Go.RowKit Go.Lib Go.Sort in
open Go.RowKit Go.Lib Go.Sort in
open Go.RowKit Go.Lib Go.Sort in
def Try.lays111_ren : Go.Shelf.Ren := ⟨fun | 111 => 168 | n => n, fun | 28 => 22 | 3 => 3 | 4 => 4 | 0 => 0 | n => n, fun | n => n⟩
theorem Try.lays111 : Go.Proofs.Lays.n111 Try.prog Try.lays111_ren := {
  mixed := by kernel_rfl
  f111 := Try.func168.trans (congrArg some (by kernel_rfl))
  t0 := Try.underlying0
  a0 := Try.isAgg0
  z0 := Try.sizeOf0
  v0 := Try.zeroValue0
  t3 := Try.underlying3
  a3 := Try.isAgg3
  z3 := Try.sizeOf3
  v3 := Try.zeroValue3
  t4 := Try.underlying4
  a4 := Try.isAgg4
  z4 := Try.sizeOf4
  v4 := Try.zeroValue4
  t28 := Try.underlying22
  a28 := Try.isAgg22
  z28 := Try.sizeOf22
  v28 := Try.zeroValue22 }
open Go.RowKit Go.Lib in
theorem Try.slices_Equal_int (b1 o1 n c b2 o2 m d : Nat) (xs ys : List Int) (w : World) (hx : n ≤ xs.length) (hy : m ≤ ys.length) (hbig : n ≤ 9223372036854775807) (hbig2 : m ≤ 9223372036854775807) (hc1 : ∀ j, j < xs.length → w.cell? ⟨b1, o1 + j, none⟩ = some (.int .i64 (xs.getD j 0))) (hc2 : ∀ j, j < ys.length → w.cell? ⟨b2, o2 + j, none⟩ = some (.int .i64 (ys.getD j 0))) :
    Calls Try.prog 168 #[.slice (some ⟨b1, o1, none⟩) n c, .slice (some ⟨b2, o2, none⟩) m d] w fun e w' => e = .returned (.bool (xs.take n == ys.take m)) ∧ ∃ q, w' = w.drewN q := Any.slices_Equal_int Try.lays111 b1 o1 n c b2 o2 m d xs ys w hx hy hbig hbig2 hc1 hc2
open Go.RowKit Go.Lib in
theorem Try.slices_Equal_int_empty (a1 a2 : Option Addr) (c m d : Nat) (w : World) (hbig2 : m ≤ 9223372036854775807) :
    Calls Try.prog 168 #[.slice a1 0 c, .slice a2 m d] w fun e w' => e = .returned (.bool (decide (m = 0))) ∧ w' = w := Any.slices_Equal_int_empty Try.lays111 a1 a2 c m d w hbig2
open Go.RowKit Go.Lib Go.Sort in
open Go.RowKit Go.Lib Go.Sort in
open Go.RowKit Go.Lib Go.Sort in
open Go.RowKit Go.Lib in
open Go.RowKit Go.Lib in
open Go.RowKit Go.Lib Go.Sort in
open Go.RowKit Go.Lib Go.Sort in
open Go.RowKit Go.Sort in
open Go.RowKit Go.Lib in
theorem Try.slices_Equal_int_lens (a1 a2 : Option Addr) (n c m d : Nat) (w : World) (hnm : n ≠ m) :
    Calls Try.prog 168 #[.slice a1 n c, .slice a2 m d] w fun e w' => e = .returned (.bool false) ∧ w' = w := Any.slices_Equal_int_lens Try.lays111 a1 a2 n c m d w hnm
end Go.Proofs

/- Plain laws on lists of ints: ascending lists, sorted and compacted lists, lists of different numbers. -/
namespace Go.Proofs.Ytfbbnbpobojboaa

end Go.Proofs.Ytfbbnbpobojboaa

/- The library's sort, compact, contains, index and equal on lists of ints, in the words of these proofs. -/
namespace Go.Proofs.Ytfbbnbpobojboaa
open Go.RowKit Go.Sort
set_option linter.unusedVariables false
set_option maxRecDepth 100000


def sameB (xs ys : List Int) : Bool := xs == ys
theorem equal_c (xs ys : List Int) (a b : Value) (w : World) (la lb : Nat) (ha : Ints w la a xs) (hb : Ints w lb b ys) :
    Calls Try.prog 168 #[a, b] w fun e w' => e = .returned (.bool (sameB xs ys)) ∧ ∃ q, w' = w.drewN q := by
  obtain ⟨a1, cap1, rfl, _, _, ⟨hl1, _⟩, hc1⟩ := ha
  obtain ⟨a2, cap2, rfl, _, _, ⟨hl2, _⟩, hc2⟩ := hb
  by_cases hx : xs = []
  · subst hx
    refine (Try.slices_Equal_int_empty a1 a2 cap1 ys.length cap2 w (by omega)).mono ?_
    rintro e w' ⟨rfl, rfl⟩
    refine ⟨?_, 0, rfl⟩
    cases ys <;> rfl
  · by_cases hy : ys = []
    · subst hy
      refine (Try.slices_Equal_int_lens a1 a2 xs.length cap1 0 cap2 w (by cases xs <;> simp_all)).mono ?_
      rintro e w' ⟨rfl, rfl⟩
      refine ⟨?_, 0, rfl⟩
      cases xs <;> simp_all [sameB]
    · obtain ⟨b1, o1, rfl, _⟩ := hc1 0 (by cases xs <;> simp_all)
      obtain ⟨b2, o2, rfl, _⟩ := hc2 0 (by cases ys <;> simp_all)
      refine (Try.slices_Equal_int b1 o1 xs.length cap1 b2 o2 ys.length cap2 xs ys w (Nat.le_refl _) (Nat.le_refl _) (by omega) (by omega) (fun j hj => by obtain ⟨b', off', he, _, hc, _⟩ := hc1 j hj; cases he; exact hc) (fun j hj => by obtain ⟨b', off', he, _, hc, _⟩ := hc2 j hj; cases he; exact hc)).mono ?_
      rintro e w' ⟨rfl, q, rfl⟩
      exact ⟨by rw [List.take_length, List.take_length]; rfl, q, rfl⟩

end Go.Proofs.Ytfbbnbpobojboaa

/- Walks: the cells of a view, told once; what two views have; places in a list; lists of different numbers. -/
namespace Go.Proofs.Ytfbbnbpobojboaa
open Go.RowKit
set_option linter.unusedVariables false
set_option maxRecDepth 100000

end Go.Proofs.Ytfbbnbpobojboaa

/- Walks: one to one views, what two views have, and the program's exported questions about them. -/
namespace Go.Proofs.Ytfbbnbpobojboaa
open Go.RowKit
set_option linter.unusedVariables false
set_option maxRecDepth 100000

end Go.Proofs.Ytfbbnbpobojboaa

/- Plain laws: the program's words on cells are the reference's. -/
namespace Go.Proofs.Ytfbbnbpobojboaa
open Go.RowKit

end Go.Proofs.Ytfbbnbpobojboaa

/- Plain laws on ranges of ints: the numbers of a range, normal forms, progressions. -/
namespace Go.Proofs.Ytfbbnbpobojboaa
set_option linter.unusedVariables false

/-- sets of numbers that go on by their own differences -/
def ApS (S : Int → Prop) : Prop := ∀ x y z u v, S x → S y → S z → S u → S v → x ≤ z + (v - u) → z + (v - u) ≤ y → S (z + (v - u))
theorem ApS.and {S T : Int → Prop} (h : ApS S) (k : ApS T) : ApS fun x => S x ∧ T x :=
  fun x y z u v hx hy hz hu hv h1 h2 => ⟨h x y z u v hx.1 hy.1 hz.1 hu.1 hv.1 h1 h2, k x y z u v hx.2 hy.2 hz.2 hu.2 hv.2 h1 h2⟩
theorem ApS.congr {S T : Int → Prop} (h : ApS S) (k : ∀ x, S x ↔ T x) : ApS T :=
  fun x y z u v hx hy hz hu hv h1 h2 => (k _).1 (h x y z u v ((k _).2 hx) ((k _).2 hy) ((k _).2 hz) ((k _).2 hu) ((k _).2 hv) h1 h2)
end Go.Proofs.Ytfbbnbpobojboaa

/- Plain laws: repeated cells, gaps between cells, later and earlier cells. -/
namespace Go.Proofs.Ytfbbnbpobojboaa
open Go.RowKit
set_option linter.unusedVariables false

theorem getD_get {xs : List Int} {i : Nat} (h : i < xs.length) : xs.getD i 0 = xs[i] := by simp [h]

end Go.Proofs.Ytfbbnbpobojboaa

/- Words for loops that append to a row of their own beside a list that they read. No condition. -/
namespace Go.Proofs.Ytfbbnbpobojboaa
open Go.RowKit
set_option linter.unusedVariables false

theorem Ext.frz {w w' : World} (h : Ext w w') {b o : Nat} {f : Bool} (hb : b < w.heap.size) (hf : w.frozen? ⟨b, o, none⟩ = f) : w'.frozen? ⟨b, o, none⟩ = f := (h.frule b o hb).trans hf

/-- the row v of the call's own, blocks from B on, reads ys; the list u, which is only read, lies apart from it -/
structure Beside (B : Nat) (w0 wr : World) (v : Value) (ys : List Int) (u : Value) (xs : List Int) : Prop where
  own : OwnI wr B v ys
  bel : Below B w0 wr
  ints : Ints wr 0 u xs
  size : B ≤ wr.heap.size
  sep : xs ≠ [] → ∀ b off n c, u = .slice (some ⟨b, off, none⟩) n c → v.ownBlock ≠ some b

theorem Beside.ext {B : Nat} {w0 wr w3 : World} {v u : Value} {ys xs : List Int} (h : Beside B w0 wr v ys u xs) (hx : Ext wr w3) : Beside B w0 w3 v ys u xs :=
  ⟨h.own.ext hx, Below.trans h.bel (Below.mono hx h.size), h.ints.ext hx, Nat.le_trans h.size hx.size, h.sep⟩

theorem Ints.drop {w : World} {lo : Nat} {a : Option Addr} {n c : Nat} {xs : List Int} (h : Ints w lo (.slice a n c) xs) (k : Nat) (hk : k ≤ n) : Ints w lo (.slice (if c = k then a else a.map (·.add k)) (n - k) (c - k)) (xs.drop k) := by
  obtain ⟨a', cap, hv, h1, h2, ⟨h3, h3'⟩, h4⟩ := h
  cases hv
  have hl : (xs.drop k).length = xs.length - k := by simp
  refine ⟨_, c - k, by rw [hl], by omega, by omega, ⟨by omega, fun e => ?_⟩, fun i hi => ?_⟩
  · by_cases hc : c = k
    · omega
    · rw [if_neg hc] at e
      cases a with
      | none => have := h3' rfl; omega
      | some ad => simp at e
  · obtain ⟨b, off, rfl, hb, hc, hf⟩ := h4 (k + i) (by omega)
    rw [if_neg (by omega)]
    have e : (⟨b, off, none⟩ : Addr).add k = ⟨b, off + k, none⟩ := by unfold Addr.add; split <;> simp_all
    refine ⟨b, off + k, by rw [Option.map_some, e], hb, ?_, by rw [Nat.add_assoc]; exact hf⟩
    rw [Nat.add_assoc, hc]
    simp [show k + i < xs.length by omega]

theorem Ints.drop1 {w : World} {lo b off : Nat} {n c : Nat} {xs : List Int} (h : Ints w lo (.slice (some ⟨b, off, none⟩) n c) xs) (k : Nat) (hk : k ≤ n) (hc : c ≠ k) : Ints w lo (.slice (some ⟨b, off + k, none⟩) (n - k) (c - k)) (xs.drop k) := by
  have := h.drop k hk
  rw [if_neg hc] at this
  have e : (⟨b, off, none⟩ : Addr).add k = ⟨b, off + k, none⟩ := by unfold Addr.add; split <;> simp_all
  rwa [Option.map_some, e] at this
theorem Ints.drop0 {w : World} {lo b off : Nat} {n c : Nat} {xs : List Int} (h : Ints w lo (.slice (some ⟨b, off, none⟩) n c) xs) (k : Nat) (hk : k ≤ n) (hc : c = k) : Ints w lo (.slice (some ⟨b, off, none⟩) (n - k) 0) (xs.drop k) := by
  have := h.drop k hk
  rw [if_pos hc] at this
  subst hc
  rwa [Nat.sub_self] at this

theorem PInts.of {w w' : World} {lo base : Nat} {xs : List Int} {v : Value} (h : OwnZ w' base v xs) (hi : Ints w' lo v xs) (hb : w.heap.size ≤ base) (hx : Ext w w') : PInts w xs (.returned v) w' := PInts.mkz h hb hi.len hx

theorem mk_ints (n : Nat) (hn : n ≤ 4194304) : ∀ w : World, (Instr.makeSlice 22 (.int .i64 (n : Int)) (.int .i64 (n : Int))).run Try.prog w = .ok (.slice (some ⟨w.heap.size, 0, none⟩) n n) (w.alloc (.cells (madeCells #[Value.int .i64 0] n) 3)) := by
  intro w
  obtain ⟨i0, hi, hz0, hz1, hz2⟩ := info_parts infoInt
  have := run_makeSlice (P := Try.prog) (w := w) 22 3 i0 (.int .i64 0) Try.underlying22 hi hz0 .i64 .i64 n n (by omega) (Int.le_refl _) (by rw [hz1]; simp; omega) (by rw [hz2]; omega) (by omega)
  simpa [hz1, Value.cells] using this
theorem OwnI.made (w : World) (base n : Nat) (hb : base ≤ w.heap.size) (hn : n ≤ 4194304) : OwnI (w.alloc (.cells (madeCells #[Value.int .i64 0] n) 3)) base (.slice (some ⟨w.heap.size, 0, none⟩) n n) (List.replicate n 0) := by
  have := World.ownsRow_lit (e := 3) (size := 1) w (madeCells #[Value.int .i64 0] n) n hb (by unfold maxLen; omega) (by simp [madeCells])
  unfold OwnI
  rw [made_ints] at this
  simpa using this

end Go.Proofs.Ytfbbnbpobojboaa

/- Walks: WayOf of the program and of the reference. -/
namespace Go.Proofs.Ytfbbnbpobojboaa
open Go.RowKit
set_option linter.unusedVariables false
set_option maxRecDepth 100000

theorem equal_x (xs ys : List Int) (a b : Value) (w : World) (la lb : Nat) (ha : Ints w la a xs) (hb : Ints w lb b ys) :
    Calls Try.prog 168 #[a, b] w fun e w' => e = .returned (.bool (sameB xs ys)) ∧ Ext w w' :=
  (equal_c xs ys a b w la lb ha hb).mono fun _ _ ⟨h, n, hn⟩ => ⟨h, by subst hn; exact (Ext.refl _).drewN _⟩
set_option maxHeartbeats 1600000 in
theorem sameInts_c (xs ys : List Int) (a b : Value) (w : World) (la lb : Nat) (ha : Ints w la a xs) (hb : Ints w lb b ys) :
    Calls Try.prog 166 #[a, b] w fun e w' => e = .returned (.bool (sameB xs ys)) ∧ Ext w w' := by
  obtain ⟨a1, cap1, rfl, _, _, ⟨hlen, _⟩, hc1⟩ := ha
  obtain ⟨a2, cap2, rfl, _, _, ⟨hlen2, _⟩, hc2⟩ := hb
  by_cases hl : xs.length = ys.length
  · have hlI : ((xs.length : Int) == (ys.length : Int)) = true := by simp; omega
    have hlN : ((xs.length : Int) != (ys.length : Int)) = false := by simp; omega
    replace hl := Lib.hid hl
    go_enter Try.func166, Try.ntmps166
    go_wp2_with fail
    go_loopw [5] (fun i wr => ∃ k m : Nat, k ≤ xs.length ∧ i = .int .i64 k ∧ wr = w.drewN m ∧ Hid (xs.take k = ys.take k)) (fun i _ => xs.length - (intOf i).toNat)
    case atStart => exact ⟨0, 0, Nat.zero_le _, rfl, rfl, Lib.hid (by simp)⟩
    case round =>
      obtain ⟨k, m, hk, rfl, rfl, ht⟩ := hrel
      by_cases hlt : k < xs.length
      · have hlt2 : k < ys.length := by have := hl.out; omega
        obtain ⟨b1, off1, rfl, _, hcell1, _⟩ := hc1 k hlt
        obtain ⟨b2, off2, rfl, _, hcell2, _⟩ := hc2 k hlt2
        have g1 : xs.getD k 0 = xs[k] := by simp [hlt]
        have g2 : ys.getD k 0 = ys[k] := by simp [hlt2]
        rw [g1] at hcell1
        rw [g2] at hcell2
        have hk4 : (k : Int) < xs.length := by omega
        have hk5 : (k : Int) < ys.length := by omega
        clear hc1 hc2 g1 g2
        cases hq : (xs[k] == ys[k])
        · have hq2 : (xs[k] != ys[k]) = true := by simpa [bne] using hq
          have hn := Lib.hid (show sameB xs ys = false by unfold sameB; rw [Bool.eq_false_iff]; intro h; have h := eq_of_beq h; subst h; simp at hq)
          go_wp2_with fail
          go_quiet (fail)
          go_wp2_with fail
          go_ret
          exact ⟨by rw [hn.out] <;> rfl, qXo⟩
        · have hq2 : (xs[k] != ys[k]) = false := by simpa [bne] using hq
          have hn := Lib.hid (show xs.take (k+1) = ys.take (k+1) by rw [List.take_succ_eq_append_getElem hlt, List.take_succ_eq_append_getElem hlt2, ht.out, eq_of_beq hq])
          go_wp2_with fail
          go_quiet (fail)
          go_wp2_with fail
          go_roundw
          case rel => exact ⟨k+1, _, by omega, by go_num, rfl, hn⟩
          case measure => simp [intOf]; omega
      · obtain rfl : k = xs.length := by omega
        have hn := Lib.hid (show sameB xs ys = true by have := ht.out; rw [List.take_length, hl.out, List.take_length] at this; unfold sameB; rw [this]; simp)
        go_wp2_with fail
        go_ret
        exact ⟨by rw [hn.out] <;> rfl, qXo⟩
  · have hn := Lib.hid (show sameB xs ys = false by unfold sameB; rw [Bool.eq_false_iff]; intro h; have h := eq_of_beq h; subst h; exact hl rfl)
    have hlI : ((xs.length : Int) == (ys.length : Int)) = false := by simp; omega
    have hlN : ((xs.length : Int) != (ys.length : Int)) = true := by simp; omega
    clear hl
    go_enter Try.func166, Try.ntmps166
    go_wp2_with fail
    go_ret
    exact ⟨by rw [hn.out] <;> rfl, qXo⟩

end Go.Proofs.Ytfbbnbpobojboaa

/- Walks: values that are loaded from and stored in memories, of the program and of the reference. -/
namespace Go.Proofs.Ytfbbnbpobojboaa
open Go.RowKit
set_option linter.unusedVariables false
set_option maxRecDepth 100000

/-- a list after the first k stores -/
def putUp (mem ix vs : List Int) (k : Nat) : List Int := (List.range k).foldl (fun m i => m.set (ix.getD i 0).toNat (vs.getD i 0)) mem
theorem putUp_succ (mem ix vs : List Int) (k : Nat) : putUp mem ix vs (k+1) = (putUp mem ix vs k).set (ix.getD k 0).toNat (vs.getD k 0) := by
  unfold putUp; rw [List.range_succ, List.foldl_append]; rfl
theorem putUp_len (mem ix vs : List Int) (k : Nat) : (putUp mem ix vs k).length = mem.length := by
  induction k with
  | zero => rfl
  | succ k ih => rw [putUp_succ, List.length_set, ih]
def putL (mem ix vs : List Int) : List Int := putUp mem ix vs ix.length
theorem OwnI.row {w : World} {base : Nat} {v : Value} {xs : List Int} (h : OwnI w base v xs) (hn : xs ≠ []) : ∃ g cap, v = .slice (some ⟨g, 0, none⟩) xs.length cap ∧ base ≤ g ∧ g < w.heap.size := by
  rcases h.2 with ⟨rfl, h0⟩ | ⟨g, cap, cur, rfl, hb, hg, _⟩
  · exact absurd (List.eq_nil_of_length_eq_zero h0) hn
  · exact ⟨g, cap, rfl, hb, (Array.getElem?_eq_some_iff.1 hg).1⟩

theorem OwnZ.ofNe {w : World} {base : Nat} {v : Value} {xs : List Int} (h : OwnZ w base v xs) (hn : xs ≠ []) : OwnI w base v xs := h.elim (fun h => absurd h.1 hn) id

end Go.Proofs.Ytfbbnbpobojboaa

/- Walks: SwapViews of the program and of the reference. -/
namespace Go.Proofs.Ytfbbnbpobojboaa
open Go.RowKit
set_option linter.unusedVariables false
set_option maxRecDepth 100000

/-- a call hands back a new list and whether it could be made -/
def PIntsB (w : World) (xs : List Int) (b : Bool) (e : Ending) (w' : World) : Prop := ∃ v, e = .returned (.tuple #[v, .bool b]) ∧ Ints w' w.heap.size v xs ∧ OwnZ w' w.heap.size v xs ∧ Ext w w'
theorem PIntsB.no {w w' : World} (h : Ext w w') : PIntsB w [] false (.returned (.tuple #[.slice none 0 0, .bool false])) w' :=
  ⟨_, rfl, Ints.nil _ _ _ _ (by simp) (fun _ => rfl), .inl ⟨rfl, none, 0, rfl, by simp, fun _ => rfl⟩, h⟩
theorem PIntsB.yes {w w' : World} {lo base : Nat} {xs : List Int} {v : Value} (h : OwnZ w' base v xs) (hi : Ints w' lo v xs) (hb : w.heap.size ≤ base) (hx : Ext w w') : PIntsB w xs true (.returned (.tuple #[v, .bool true])) w' :=
  ⟨v, rfl, (h.lower hb).ints hi.len, h.lower hb, hx⟩
end Go.Proofs.Ytfbbnbpobojboaa

/- Walks: CellsOf and OverlapOf of the program and of the reference. -/
namespace Go.Proofs.Ytfbbnbpobojboaa
open Go.RowKit
set_option linter.unusedVariables false
set_option maxRecDepth 100000

end Go.Proofs.Ytfbbnbpobojboaa

/- Walks: normal forms of ranges, LineOf of the program and of the reference, comparison of ranges. -/
namespace Go.Proofs.Ytfbbnbpobojboaa
open Go.RowKit
set_option linter.unusedVariables false
set_option maxRecDepth 100000

end Go.Proofs.Ytfbbnbpobojboaa

/- Walks: valid ranges and the numbers of a range, of the program and of the reference. -/
namespace Go.Proofs.Ytfbbnbpobojboaa
open Go.RowKit
set_option linter.unusedVariables false
set_option maxRecDepth 100000

theorem ret_b {x y : Bool} (h : x = y) : Ending.returned (.bool x) = .returned (.bool y) := by rw [h]

end Go.Proofs.Ytfbbnbpobojboaa

/- Plain laws: products of extents, ranks of indices, other shapes of the same cells. -/
namespace Go.Proofs.Ytfbbnbpobojboaa
open Go.RowKit
set_option linter.unusedVariables false

/-- the product of extents, unbounded -/
def prodL (xs : List Int) : Int := xs.foldr (· * ·) 1
theorem prodL_cons (x : Int) (xs : List Int) : prodL (x :: xs) = x * prodL xs := rfl
theorem prodL_append (xs ys : List Int) : prodL (xs ++ ys) = prodL xs * prodL ys := by
  induction xs with
  | nil => simp [prodL]
  | cons x xs ih => rw [List.cons_append, prodL_cons, ih, prodL_cons, Int.mul_assoc]
theorem prodL_pos {xs : List Int} (h : ∀ e ∈ xs, 1 ≤ e) : 1 ≤ prodL xs := by
  induction xs with
  | nil => simp [prodL]
  | cons x xs ih =>
    have h1 := h x (List.mem_cons_self ..)
    have h2 := ih (fun e he => h e (List.mem_cons_of_mem _ he))
    rw [prodL_cons]
    have := Int.mul_le_mul h1 h2 (by omega) (by omega)
    simpa using this
/-- a few extents, none of them great -/
def Small (xs : List Int) : Prop := xs.length ≤ 4 ∧ ∀ e ∈ xs, 0 ≤ e ∧ e ≤ 60
theorem Small.of {xs : List Int} (h : shapeB xs = true) : Small xs := ⟨(shapeB_in h).1, (shapeB_in h).2.1⟩
theorem Small.drop {xs : List Int} (h : Small xs) (k : Nat) : Small (xs.drop k) := ⟨by have := h.1; simp; omega, fun e he => h.2 e (List.mem_of_mem_drop he)⟩
theorem Small.take {xs : List Int} (h : Small xs) (k : Nat) : Small (xs.take k) := ⟨by have := h.1; simp; omega, fun e he => h.2 e (List.mem_of_mem_take he)⟩
theorem Small.count {xs : List Int} (h : Small xs) : countL xs = prodL xs ∧ 0 ≤ countL xs ∧ countL xs ≤ 12960000 ∧ (0 < countL xs → ∀ e ∈ xs, 1 ≤ e) := by
  have := countL_zero_or h.1 h.2
  exact ⟨this.2.2.2, this.1, this.2.1, this.2.2.1⟩
theorem prodL_split (xs : List Int) (i : Nat) (h : i < xs.length) : prodL xs = prodL (xs.take i) * (xs[i] * prodL (xs.drop (i+1))) := by
  conv => lhs; rw [← List.take_append_drop i xs, prodL_append, List.drop_eq_getElem_cons h, prodL_cons]
/-- the stride of a dimension of which a view has more than one is less than the number of its indices -/
theorem stride_lt {xs : List Int} (h : Small xs) (hc : 0 < countL xs) (i : Nat) (hi : i < xs.length) (h1 : 1 < xs[i]) : 1 ≤ countL (xs.drop (i+1)) ∧ countL (xs.drop (i+1)) < countL xs := by
  obtain ⟨e1, _, _, hp⟩ := h.count
  have hp := hp hc
  obtain ⟨e2, _, _, _⟩ := (h.drop (i+1)).count
  have p1 : 1 ≤ prodL (xs.take i) := prodL_pos fun e he => hp e (List.mem_of_mem_take he)
  have p2 : 1 ≤ prodL (xs.drop (i+1)) := prodL_pos fun e he => hp e (List.mem_of_mem_drop he)
  rw [e1, e2, prodL_split xs i hi]
  refine ⟨p2, ?_⟩
  have h2 : 2 * prodL (xs.drop (i+1)) ≤ xs[i] * prodL (xs.drop (i+1)) := Int.mul_le_mul_of_nonneg_right (by omega) (by omega)
  have h3 : 1 * (xs[i] * prodL (xs.drop (i+1))) ≤ prodL (xs.take i) * (xs[i] * prodL (xs.drop (i+1))) := Int.mul_le_mul_of_nonneg_right p1 (by omega)
  omega

/-- the rank of an index -/
def rankL (shape ix : List Int) : Int := (shape.zip ix).foldl (fun n p => wrap64 (wrap64 (n * p.1) + p.2)) 0
theorem rankL_take (shape ix : List Int) (k : Nat) (hk : k < shape.length) (hs : k < ix.length) :
    rankL (shape.take (k+1)) ix = wrap64 (wrap64 (rankL (shape.take k) ix * shape.getD k 0) + ix.getD k 0) := by
  unfold rankL
  have e : ∀ n : Nat, (shape.take n).zip ix = (shape.zip ix).take n := by
    intro n
    apply List.ext_getElem
    · simp <;> omega
    · intro i h1 h2; simp
  rw [e, e, List.take_succ_eq_append_getElem (by simp; omega), List.foldl_append]
  simp [hk, hs]
/-- the rank of an index, unbounded, from the last dimension on -/
def rankC : List Int → List Int → Int
  | e :: s, x :: r => x * prodL s + rankC s r
  | _, _ => 0
theorem rank_eq : ∀ (shape ix : List Int) (n : Int), shape.length = ix.length → 0 ≤ n → (∀ e ∈ shape, 0 ≤ e ∧ e ≤ 60) → (∀ x ∈ ix, 0 ≤ x ∧ x ≤ 60) → (n + 1) * 61 ^ shape.length ≤ 1000000000 →
    (shape.zip ix).foldl (fun n p => wrap64 (wrap64 (n * p.1) + p.2)) n = n * prodL shape + rankC shape ix
  | [], [], n, _, _, _, _, _ => by simp [prodL, rankC]
  | e :: s, x :: r, n, hl, h0, hs, hx, hb => by
    obtain ⟨e1, e2⟩ := hs e (List.mem_cons_self ..)
    obtain ⟨x1, x2⟩ := hx x (List.mem_cons_self ..)
    have p1 : (1 : Int) ≤ 61 ^ s.length := Int.pow_pos (by decide)
    have hb' : (n + 1) * 61 * 61 ^ s.length ≤ 1000000000 := by
      rw [List.length_cons, Int.pow_succ] at hb; rw [Int.mul_assoc, Int.mul_comm 61]; exact hb
    have m1 : n * e ≤ n * 60 := Int.mul_le_mul_of_nonneg_left e2 h0
    have m0 : 0 ≤ n * e := Int.mul_nonneg h0 e1
    have hn : (n + 1) * 61 ≤ 1000000000 := Int.le_trans (by
      have := Int.mul_le_mul_of_nonneg_left p1 (show 0 ≤ (n + 1) * 61 by omega)
      simpa using this) hb'
    have w1 : wrap64 (n * e) = n * e := IntWalk.wrap64_in _ ⟨by omega, by omega⟩
    have w2 : wrap64 (n * e + x) = n * e + x := IntWalk.wrap64_in _ ⟨by omega, by omega⟩
    rw [List.zip_cons_cons, List.foldl_cons]
    simp only [w1, w2]
    rw [rank_eq s r (n * e + x) (by simpa using hl) (by omega) (fun q hq => hs q (List.mem_cons_of_mem _ hq)) (fun q hq => hx q (List.mem_cons_of_mem _ hq)) ?_]
    · rw [prodL_cons, rankC, Int.add_mul, ← Int.mul_assoc, Int.add_assoc]
    · refine Int.le_trans (Int.mul_le_mul_of_nonneg_right (show n * e + x + 1 ≤ (n + 1) * 61 by omega) (by omega)) hb'
theorem rankL_eq {shape ix : List Int} (hl : shape.length = ix.length) (hs : Small shape) (hx : ∀ x ∈ ix, 0 ≤ x ∧ x ≤ 60) : rankL shape ix = rankC shape ix := by
  unfold rankL
  rw [rank_eq shape ix 0 hl (by omega) hs.2 hx ?_]
  · simp
  · have h4 : shape.length = 0 ∨ shape.length = 1 ∨ shape.length = 2 ∨ shape.length = 3 ∨ shape.length = 4 := by have := hs.1; omega
    rcases h4 with h | h | h | h | h <;> rw [h] <;> decide
theorem rankC_zero : ∀ (shape : List Int) (n : Nat), rankC shape (List.replicate n 0) = 0
  | [], n => by cases n <;> rfl
  | e :: s, 0 => rfl
  | e :: s, n+1 => by rw [List.replicate_succ, rankC, rankC_zero s n]; simp
/-- the index with 1 in one dimension -/
theorem rankC_unit : ∀ (shape : List Int) (d : Nat), d < shape.length → rankC shape ((List.replicate shape.length 0).set d 1) = prodL (shape.drop (d+1))
  | [], d, h => absurd h (by simp)
  | e :: s, 0, _ => by
    rw [List.length_cons, List.replicate_succ, List.set_cons_zero, rankC, rankC_zero]; simp
  | e :: s, d+1, h => by
    rw [List.length_cons, List.replicate_succ, List.set_cons_succ, rankC, rankC_unit s d (by simpa using h)]; simp
theorem rank_unit {shape : List Int} (hs : Small shape) (d : Nat) (hd : d < shape.length) : rankL shape ((List.replicate shape.length 0).set d 1) = countL (shape.drop (d+1)) := by
  rw [rankL_eq (by simp) hs (fun x hx => ?_), rankC_unit shape d hd, (hs.drop (d+1)).count.1]
  rcases List.mem_or_eq_of_mem_set hx with h | h
  · rw [List.mem_replicate] at h; omega
  · omega

/-- the strides of another shape of the same cells -/
def reshS (cells s2 : List Int) (m : Nat) : List Int := (List.range m).map fun i => if 1 < s2.getD i 0 then cells.getD (countL (s2.drop (i+1))).toNat 0 - cells.getD 0 0 else 0
theorem reshS_len (cells s2 : List Int) (m : Nat) : (reshS cells s2 m).length = m := by simp [reshS]
theorem reshS_succ (cells s2 : List Int) (m : Nat) : reshS cells s2 (m+1) = reshS cells s2 m ++ [if 1 < s2.getD m 0 then cells.getD (countL (s2.drop (m+1))).toNat 0 - cells.getD 0 0 else 0] := by
  simp [reshS, List.range_succ]
/-- is there a view with another shape and the same cells, and which? -/
def reshB (b : Int) (s t s2 : List Int) : Bool :=
  (countL s2 == countL s) && ((countL s2 == 0) || (viewB b s2 (reshS (offsL b s t) s2 s2.length) && sameB (offsL b s2 (reshS (offsL b s t) s2 s2.length)) (offsL b s t)))
end Go.Proofs.Ytfbbnbpobojboaa

/- Walks towards SplitDim: dimensions, ranks. -/
namespace Go.Proofs.Ytfbbnbpobojboaa
open Go.RowKit
set_option linter.unusedVariables false
set_option maxRecDepth 100000

/-- is it a view with such a dimension? -/
def dimB (b : Int) (s t : List Int) (i : Int) : Bool := viewB b s t && inB 0 ((s.length : Int) - 1) i

set_option maxHeartbeats 1600000 in
theorem isDim_c (b1 : Int) (u1 v1 : Value) (s1 t1 : List Int) (i : Int) (w : World) (l1 m1 : Nat) (h1 : Ints w l1 u1 s1) (k1 : Ints w m1 v1 t1) (hl : s1.length ≤ 4) :
    Calls Try.prog 74 #[.agg #[.int .i64 b1, u1, v1], .int .i64 i] w (fun e w' => e = .returned (.bool (inB 0 ((s1.length : Int) - 1) i)) ∧ Ext w w') := by
  obtain ⟨a1, c1, rfl⟩ := h1.form
  have hw := Lib.hid (show wrap64 ((s1.length : Int) - 1) = (s1.length : Int) - 1 from IntWalk.wrap64_in _ ⟨by omega, by omega⟩)
  go_enter Try.func74, Try.ntmps74
  go_wp2_with (go_at_call 86; refine (inRange_c _ _ _ _).mono ?_; rintro e w' ⟨rfl, rfl⟩)
  go_ret
  exact ⟨rfl, qXo⟩

set_option maxHeartbeats 3200000 in
theorem rank_c (xs ys : List Int) (a b : Value) (w : World) (la lb : Nat) (ha : Ints w la a xs) (hb : Ints w lb b ys) (hl : ys.length = xs.length) :
    Calls Try.prog 165 #[a, b] w fun e w' => e = .returned (.int .i64 (rankL xs ys)) ∧ Ext w w' := by
  obtain ⟨a1, c1, rfl, _, _, ⟨hlen, _⟩, hc1⟩ := ha
  obtain ⟨a2, c2, rfl, _, _, _, hc2⟩ := hb
  rw [hl] at hc2 ⊢
  replace hl := Lib.hid hl
  go_enter Try.func165, Try.ntmps165
  go_wp2_with fail
  go_loopw [5, 6] (fun n i wr => ∃ j m : Nat, j ≤ xs.length ∧ n = .int .i64 (rankL (xs.take j) ys) ∧ i = .int .i64 j ∧ wr = w.drewN m) (fun _ i _ => xs.length - (intOf i).toNat)
  case atStart => exact ⟨0, 0, Nat.zero_le _, rfl, rfl, rfl⟩
  case round =>
    obtain ⟨j, m, hj, rfl, rfl, rfl⟩ := hrel
    by_cases hjl : j < xs.length
    · obtain ⟨b1, off1, rfl, _, hcell1, _⟩ := hc1 j hjl
      obtain ⟨b2, off2, rfl, _, hcell2, _⟩ := hc2 j hjl
      have hjI : (j : Int) < xs.length := by omega
      have hn := Lib.hid (rankL_take xs ys j hjl (by have := hl.out; omega))
      clear hc1 hc2
      go_wp2_with fail
      go_quiet (fail)
      go_wp2_with fail
      go_roundw
      case rel => exact ⟨j+1, _, by omega, by rw [hn.out]; simp [List.getD_eq_getElem?_getD, List.getElem?_eq_getElem hjl], by go_num, rfl⟩
      case measure => simp [intOf]; omega
    · obtain rfl : j = xs.length := by omega
      go_wp2_with fail
      go_ret
      exact ⟨by rw [List.take_length] <;> rfl, qXo⟩

set_option maxHeartbeats 1600000 in
theorem hasDim_c (b1 : Int) (u1 v1 : Value) (s1 t1 : List Int) (i : Int) (w : World) (l1 m1 : Nat) (h1 : Ints w l1 u1 s1) (k1 : Ints w m1 v1 t1) :
    Calls Try.prog 77 #[.agg #[.int .i64 b1, u1, v1], .int .i64 i] w (fun e w' => e = .returned (.bool (dimB b1 s1 t1 i)) ∧ Ext w w') := by
  obtain ⟨a1, c1, rfl⟩ := h1.form
  cases ha : viewB b1 s1 t1
  · have hr := Lib.hid (show dimB b1 s1 t1 i = false by unfold dimB; rw [ha]; rfl)
    go_enter Try.func77, Try.ntmps77
    go_wp2_with fail
    refine (isView_c b1 _ _ s1 t1 _ l1 m1 (h1.ext qXo) (k1.ext qXo)).mono ?_
    rintro e w1 ⟨rfl, xw1⟩
    have Xw1 : Ext w w1 := Ext.trans qXo xw1
    rw [ha]
    go_wp2_with fail
    go_ret
    exact ⟨by rw [hr.out] <;> rfl, Xw1⟩
  · have hr := Lib.hid (show dimB b1 s1 t1 i = inB 0 ((s1.length : Int) - 1) i by unfold dimB; rw [ha]; rfl)
    have ha' := Lib.hid ha
    clear ha
    go_enter Try.func77, Try.ntmps77
    go_wp2_with fail
    refine (isView_c b1 _ _ s1 t1 _ l1 m1 (h1.ext qXo) (k1.ext qXo)).mono ?_
    rintro e w1 ⟨rfl, xw1⟩
    have Xw1 : Ext w w1 := Ext.trans qXo xw1
    have c11 : w1.cell? ⟨w.heap.size, 1, none⟩ = some (.slice a1 s1.length c1) := xw1.cell qFz
    rw [ha'.out]
    go_wp2_with fail
    all_goals
      go_ret
      refine ⟨?_, Xw1⟩
      rw [hr.out]
      refine ret_b ?_
      first | rfl | (rw [Bool.eq_iff_iff]; simp [inB] <;> omega)

set_option maxHeartbeats 1600000 in
theorem cleared_0 (b1 : Int) (u1 v1 : Value) (s1 : List Int) (w : World) (l1 : Nat) (h1 : Ints w l1 u1 s1) (hc : countL s1 = 0) :
    Calls Try.prog 167 #[.agg #[.int .i64 b1, u1, v1]] w (fun e w' => ∃ st, e = .returned (.agg #[.int .i64 0, u1, st]) ∧ OwnI w' w.heap.size st (List.replicate s1.length 0) ∧ Ext w w') := by
  obtain ⟨a1, c1, rfl⟩ := h1.form
  have hlen : s1.length ≤ 4194304 := by obtain ⟨_, _, _, _, _, ⟨h, _⟩, _⟩ := h1; exact h
  have hmk := mk_ints s1.length hlen
  go_enter Try.func167, Try.ntmps167
  go_wp2_with (go_at_call 157; refine (countOf_c s1 _ _ l1 (h1.ext qXo)).mono ?_; rintro e w' ⟨rfl, rfl⟩)
  refine bodyPost_ret (v := .agg #[.int .i64 0, .slice a1 s1.length c1, .slice (some ⟨w.heap.size + 2, 0, none⟩) s1.length s1.length]) (by simp only [results, Try.results167]; go_simp) rfl ?_
  refine ⟨_, rfl, ?_, ?_⟩
  · have := OwnI.made ((w.alloc (.cells #[.int .i64 0, .slice a1 s1.length c1, .slice (some ⟨w.heap.size + 1 + 1, 0, none⟩) s1.length s1.length] 36)).alloc (.cells #[.int .i64 0, .slice a1 s1.length c1, .slice (some ⟨w.heap.size + 1 + 1, 0, none⟩) s1.length s1.length] 36)) w.heap.size s1.length (by simp <;> omega) hlen
    simpa using this
  · exact qXo

end Go.Proofs.Ytfbbnbpobojboaa

/- A copy of a view by the reference. -/
namespace Go.Proofs.Ytfbbnbpobojboaa
open Go.RowKit
set_option linter.unusedVariables false
set_option maxRecDepth 100000

set_option maxHeartbeats 1000000 in
theorem scopyView_c (base : Int) (sh st : Value) (shape strides : List Int) (w : World) (lo lo' : Nat) (hsh : Ints w lo sh shape) (hst : Ints w lo' st strides) :
    Calls Try.prog 120 #[.agg #[.int .i64 base, sh, st]] w (PView w base shape strides) := by
  have hl1 : shape.length ≤ 4194304 := by obtain ⟨_, _, _, _, _, ⟨h, _⟩, _⟩ := hsh; exact h
  have hl2 : strides.length ≤ 4194304 := by obtain ⟨_, _, _, _, _, ⟨h, _⟩, _⟩ := hst; exact h
  go_enter Try.func120, Try.ntmps120
  go_wp2_with fail
  have c0 : ((w.alloc (.cells #[.int .i64 base, sh, st] 36)).alloc (.cells #[.int .i64 0, .slice none 0 0, .slice none 0 0] 36)).cell? ⟨w.heap.size, 0, none⟩ = some (.int .i64 base) := by rw [World.cell?_alloc_lt _ _ _ (by simp)]; simp
  have c1 : ((w.alloc (.cells #[.int .i64 base, sh, st] 36)).alloc (.cells #[.int .i64 0, .slice none 0 0, .slice none 0 0] 36)).cell? ⟨w.heap.size, 1, none⟩ = some sh := by rw [World.cell?_alloc_lt _ _ _ (by simp)]; simp
  have c2 : ((w.alloc (.cells #[.int .i64 base, sh, st] 36)).alloc (.cells #[.int .i64 0, .slice none 0 0, .slice none 0 0] 36)).cell? ⟨w.heap.size, 2, none⟩ = some st := by rw [World.cell?_alloc_lt _ _ _ (by simp)]; simp
  have r0 : ∀ j : Nat, j < 3 → (∃ u, ((w.alloc (.cells #[.int .i64 base, sh, st] 36)).alloc (.cells #[.int .i64 0, .slice none 0 0, .slice none 0 0] 36)).cell? ⟨w.heap.size + 1, j, none⟩ = some u) ∧ ((w.alloc (.cells #[.int .i64 base, sh, st] 36)).alloc (.cells #[.int .i64 0, .slice none 0 0, .slice none 0 0] 36)).frozen? ⟨w.heap.size + 1, j, none⟩ = false := by
    intro j hj
    have e : w.heap.size + 1 = (w.alloc (.cells #[.int .i64 base, sh, st] 36)).heap.size := by simp
    rw [e]
    refine ⟨?_, by simp⟩
    rw [World.cell?_alloc_new]
    match j, hj with
    | 0, _ => exact ⟨_, rfl⟩
    | 1, _ => exact ⟨_, rfl⟩
    | 2, _ => exact ⟨_, rfl⟩
  have hx0 : Ext w ((w.alloc (.cells #[.int .i64 base, sh, st] 36)).alloc (.cells #[.int .i64 0, .slice none 0 0, .slice none 0 0] 36)) := ((Ext.refl _).alloc _).alloc _
  have hz0 : w.heap.size + 2 ≤ ((w.alloc (.cells #[.int .i64 base, sh, st] 36)).alloc (.cells #[.int .i64 0, .slice none 0 0, .slice none 0 0] 36)).heap.size := by simp
  revert c0 c1 c2 r0 hx0 hz0
  generalize (w.alloc (.cells #[.int .i64 base, sh, st] 36)).alloc (.cells #[.int .i64 0, .slice none 0 0, .slice none 0 0] 36) = w0
  intro c0 c1 c2 r0 hx0 hz0
  obtain ⟨⟨ua, ra⟩, fa⟩ := r0 0 (by omega)
  obtain ⟨⟨ub, rb⟩, fb⟩ := r0 1 (by omega)
  obtain ⟨⟨uc, rc⟩, fc⟩ := r0 2 (by omega)
  clear r0
  have hz1 : w.heap.size + 1 < w0.heap.size := by omega
  have hz2 : w.heap.size < w0.heap.size := by omega
  go_region_held3 (fun w' => w'.cell? ⟨w.heap.size, 0, none⟩ = some (.int .i64 base) ∧ w'.cell? ⟨w.heap.size, 1, none⟩ = some sh ∧ w'.cell? ⟨w.heap.size, 2, none⟩ = some st)
    (first
      | go_keep
      | exact ⟨X1.cell c0, X1.cell c1, X1.cell c2⟩
      | exact ⟨X2.cell c0, X2.cell c1, X2.cell c2⟩)
    (first
      | (go_at_call 133; refine (copyInts_c shape _ _ lo (hsh.ext (hx0.trans qXo))).mono ?_; rintro e w1 ⟨v1, rfl, hi1, ho1, hx1⟩; obtain ⟨p1, q1, s1, rfl⟩ := ho1.form; have X1 : Ext w0 w1 := Ext.trans qXo hx1; have R1 := X1.rule; have F1 := X1.frule)
      | (go_at_call 133; refine (copyInts_c strides _ _ lo' (hst.ext (hx0.trans qXo))).mono ?_; rintro e w2 ⟨v2, rfl, hi2, ho2, hx2⟩; obtain ⟨p2, q2, s2, rfl⟩ := ho2.form; have X2 : Ext w0 w2 := Ext.trans qXo hx2; have R2 := X2.rule; have F2 := X2.frule))
  all_goals
    go_wp2_with fail
    refine bodyPost_ret (v := .agg #[.int .i64 base, .slice p1 q1 s1, .slice p2 q2 s2]) (by simp only [results, Try.results120]; go_simp) rfl ?_
    refine copy_close hx0 X1 (ho1.lower (by simp <;> omega)) (Ext.trans (by repeat (first | exact Ext.refl _ | apply Ext.drew | apply Ext.alloc)) hx2) (ho2.lower (by simp <;> omega)) hz1 hl1 hl2 _ _ _ rfl rfl rfl _ _ _

end Go.Proofs.Ytfbbnbpobojboaa

/- Walks: a view that the reference hands back, with a bool. -/
namespace Go.Proofs.Ytfbbnbpobojboaa
open Go.RowKit
set_option linter.unusedVariables false
set_option maxRecDepth 100000

/-- a call hands back a new view and a bool -/
def PViewB (w : World) (base : Int) (shape strides : List Int) (b : Bool) (e : Ending) (w' : World) : Prop :=
  ∃ sh st, e = .returned (.tuple #[.agg #[.int .i64 base, sh, st], .bool b]) ∧ Ints w' w.heap.size sh shape ∧ Ints w' w.heap.size st strides ∧ OwnZ w' w.heap.size sh shape ∧ OwnZ w' w.heap.size st strides ∧
    (shape ≠ [] → strides ≠ [] → sh.ownBlock ≠ st.ownBlock) ∧ Ext w w'
theorem PViewB.no {w w' : World} (h : Ext w w') : PViewB w 0 [] [] false (.returned (.tuple #[.agg #[.int .i64 0, .slice none 0 0, .slice none 0 0], .bool false])) w' :=
  ⟨_, _, rfl, Ints.nil _ _ _ _ (by simp) (fun _ => rfl), Ints.nil _ _ _ _ (by simp) (fun _ => rfl), .inl ⟨rfl, none, 0, rfl, by simp, fun _ => rfl⟩, .inl ⟨rfl, none, 0, rfl, by simp, fun _ => rfl⟩, fun h => absurd rfl h, h⟩

theorem PViewB.put {w w1 w2 : World} {base : Int} {shape strides : List Int} {v1 v2 : Value} {a b c : Addr} {u v x : Value} {g : Nat} (l1 : shape.length ≤ 4194304) (l2 : strides.length ≤ 4194304) (o1 : OwnZ w2 w1.heap.size v1 shape) (o2 : OwnZ w2 w1.heap.size v2 strides)
    (od : shape ≠ [] → strides ≠ [] → v1.ownBlock ≠ v2.ownBlock) (hz : w.heap.size ≤ w1.heap.size ∧ g < w1.heap.size) (ha : a.block = g) (hb : b.block = g) (hc : c.block = g) (hx : Ext w (((w2.setCell a u).setCell b v).setCell c x)) :
    PViewB w base shape strides true (.returned (.tuple #[.agg #[.int .i64 base, v1, v2], .bool true])) (((w2.setCell a u).setCell b v).setCell c x) := by
  have o1' := ((o1.setCell_below (a := a) (by omega) u).setCell_below (a := b) (by omega) v).setCell_below (a := c) (by omega) x
  have o2' := ((o2.setCell_below (a := a) (by omega) u).setCell_below (a := b) (by omega) v).setCell_below (a := c) (by omega) x
  exact ⟨v1, v2, rfl, (o1'.lower hz.1).ints l1, (o2'.lower hz.1).ints l2, o1'.lower hz.1, o2'.lower hz.1, od, hx⟩
theorem ints_len {w : World} {lo : Nat} {v : Value} {xs : List Int} (h : Ints w lo v xs) : xs.length ≤ 4194304 := by obtain ⟨_, _, _, _, _, ⟨h, _⟩, _⟩ := h; exact h

set_option maxHeartbeats 1600000 in
theorem made_0 (b1 : Int) (u1 v1 : Value) (s1 t1 : List Int) (w : World) (l1 m1 : Nat) (h1 : Ints w l1 u1 s1) (k1 : Ints w m1 v1 t1) (ha : viewB b1 s1 t1 = false) :
    Calls Try.prog 129 #[.agg #[.int .i64 b1, u1, v1]] w (PViewB w 0 [] [] false) := by
  go_enter Try.func129, Try.ntmps129
  go_wp2_with fail
  refine (validView_c b1 _ _ s1 t1 _ l1 m1 (h1.ext qXo) (k1.ext qXo)).mono ?_
  rintro e w1 ⟨rfl, xw1⟩
  have Lw1 : Ext w w1 := Ext.trans qXo xw1
  have Xw1 : Ext w w1 := Lw1
  have c10 : w1.cell? ⟨w.heap.size, 0, none⟩ = some (.int .i64 b1) := xw1.cell qCl
  have c11 : w1.cell? ⟨w.heap.size, 1, none⟩ = some (u1) := xw1.cell qCl
  have c12 : w1.cell? ⟨w.heap.size, 2, none⟩ = some (v1) := xw1.cell qCl
  have q0 : w1.cell? ⟨w.heap.size + 1, 0, none⟩ = some (.int .i64 0) := xw1.cell qCl
  have q1 : w1.cell? ⟨w.heap.size + 1, 1, none⟩ = some (.slice none 0 0) := xw1.cell qCl
  have q2 : w1.cell? ⟨w.heap.size + 1, 2, none⟩ = some (.slice none 0 0) := xw1.cell qCl
  have zr : w.heap.size + 1 < w1.heap.size := qB q0
  have p0 : w1.frozen? ⟨w.heap.size + 1, 0, none⟩ = false := xw1.frz (by simp <;> omega) qFz
  have p1 : w1.frozen? ⟨w.heap.size + 1, 1, none⟩ = false := xw1.frz (by simp <;> omega) qFz
  have p2 : w1.frozen? ⟨w.heap.size + 1, 2, none⟩ = false := xw1.frz (by simp <;> omega) qFz
  have z1 : w.heap.size < w1.heap.size := qB c10
  have sw1 : w.heap.size ≤ w1.heap.size := Lw1.size
  rw [ha]
  go_wp2_with fail
  refine bodyPost_ret (v := .tuple #[.agg #[.int .i64 0, .slice none 0 0, .slice none 0 0], .bool false]) (by simp only [results, Try.results129]; go_simp) rfl ?_
  exact PViewB.no (by repeat (first | exact Ext.refl _ | assumption | apply Ext.drewN | apply Ext.drew | apply Ext.alloc | (refine Ext.setCell ?_ (by simp) _)))

set_option maxHeartbeats 1600000 in
theorem made_1 (b1 : Int) (u1 v1 : Value) (s1 t1 : List Int) (w : World) (l1 m1 : Nat) (h1 : Ints w l1 u1 s1) (k1 : Ints w m1 v1 t1) (ha : viewB b1 s1 t1 = true) :
    Calls Try.prog 129 #[.agg #[.int .i64 b1, u1, v1]] w (PViewB w b1 s1 t1 true) := by
  go_enter Try.func129, Try.ntmps129
  go_wp2_with fail
  refine (validView_c b1 _ _ s1 t1 _ l1 m1 (h1.ext qXo) (k1.ext qXo)).mono ?_
  rintro e w1 ⟨rfl, xw1⟩
  have Lw1 : Ext w w1 := Ext.trans qXo xw1
  have Xw1 : Ext w w1 := Lw1
  have c10 : w1.cell? ⟨w.heap.size, 0, none⟩ = some (.int .i64 b1) := xw1.cell qCl
  have c11 : w1.cell? ⟨w.heap.size, 1, none⟩ = some (u1) := xw1.cell qCl
  have c12 : w1.cell? ⟨w.heap.size, 2, none⟩ = some (v1) := xw1.cell qCl
  have q0 : w1.cell? ⟨w.heap.size + 1, 0, none⟩ = some (.int .i64 0) := xw1.cell qCl
  have q1 : w1.cell? ⟨w.heap.size + 1, 1, none⟩ = some (.slice none 0 0) := xw1.cell qCl
  have q2 : w1.cell? ⟨w.heap.size + 1, 2, none⟩ = some (.slice none 0 0) := xw1.cell qCl
  have zr : w.heap.size + 1 < w1.heap.size := qB q0
  have p0 : w1.frozen? ⟨w.heap.size + 1, 0, none⟩ = false := xw1.frz (by simp <;> omega) qFz
  have p1 : w1.frozen? ⟨w.heap.size + 1, 1, none⟩ = false := xw1.frz (by simp <;> omega) qFz
  have p2 : w1.frozen? ⟨w.heap.size + 1, 2, none⟩ = false := xw1.frz (by simp <;> omega) qFz
  have z1 : w.heap.size < w1.heap.size := qB c10
  have sw1 : w.heap.size ≤ w1.heap.size := Lw1.size
  rw [ha]
  have zk := zr
  go_wp2_with fail
  refine (scopyView_c b1 _ _ s1 t1 _ l1 m1 (h1.ext (Xw1.trans qXo)) (k1.ext (Xw1.trans qXo))).mono ?_
  rintro e w2 ⟨x1, x2, rfl, i1, i2, o1, o2, od, xw2⟩
  have hl1 := ints_len i1
  have hl2 := ints_len i2
  obtain ⟨y1, n1, rfl⟩ := i1.form
  obtain ⟨y2, n2, rfl⟩ := i2.form
  have Lw2 : Ext w1 w2 := Ext.trans qXo xw2
  have Xw2 : Ext w w2 := Xw1.trans Lw2
  replace c10 := Lw2.cell c10
  replace c11 := Lw2.cell c11
  replace c12 := Lw2.cell c12
  replace q0 := Lw2.cell q0
  replace p0 := Lw2.frz zr p0
  replace q1 := Lw2.cell q1
  replace p1 := Lw2.frz zr p1
  replace q2 := Lw2.cell q2
  replace p2 := Lw2.frz zr p2
  replace zr := Nat.lt_of_lt_of_le zr Lw2.size
  have z2 : w.heap.size < w2.heap.size := qB c10
  have sw2 : w1.heap.size ≤ w2.heap.size := Lw2.size
  go_wp2_with fail
  refine bodyPost_ret (v := .tuple #[.agg #[.int .i64 b1, .slice y1 s1.length n1, .slice y2 t1.length n2], .bool true]) (by simp only [results, Try.results129]; go_simp) rfl ?_
  exact PViewB.put (g := w.heap.size + 1) hl1 hl2 o1 o2 od (by constructor <;> (try simp) <;> omega) rfl rfl rfl (by repeat (first | exact Ext.refl _ | assumption | apply Ext.drewN | apply Ext.drew | apply Ext.alloc | (refine Ext.setCell ?_ (by simp) _)))

end Go.Proofs.Ytfbbnbpobojboaa

/- Walks: strides by rows and numbers in order, of the reference; orders of dimensions. -/
namespace Go.Proofs.Ytfbbnbpobojboaa
open Go.RowKit
set_option linter.unusedVariables false
set_option maxRecDepth 100000

end Go.Proofs.Ytfbbnbpobojboaa

/- Walks: new views of the reference, tidy views. -/
namespace Go.Proofs.Ytfbbnbpobojboaa
open Go.RowKit
set_option linter.unusedVariables false
set_option maxRecDepth 100000

theorem PView.no {w w' : World} (h : Ext w w') : PView w 0 [] [] (.returned (.agg #[.int .i64 0, .slice none 0 0, .slice none 0 0])) w' :=
  ⟨_, _, rfl, Ints.nil _ _ _ _ (by simp) (fun _ => rfl), Ints.nil _ _ _ _ (by simp) (fun _ => rfl), .inl ⟨rfl, none, 0, rfl, by simp, fun _ => rfl⟩, .inl ⟨rfl, none, 0, rfl, by simp, fun _ => rfl⟩, fun h => absurd rfl h, h⟩
theorem PView.two {w w' : World} {base : Int} {shape strides : List Int} {v1 v2 : Value} {b1 b2 m : Nat} (o1 : OwnZ w' b1 v1 shape) (o2 : OwnZ w' b2 v2 strides) (h1 : w.heap.size ≤ b1) (h2 : w.heap.size ≤ b2)
    (hd : (shape ≠ [] → ∀ g, v1.ownBlock = some g → g < m) ∧ m ≤ b2 ∨ (strides ≠ [] → ∀ g, v2.ownBlock = some g → g < m) ∧ m ≤ b1) (l1 : shape.length ≤ 4194304) (l2 : strides.length ≤ 4194304) (hx : Ext w w') : PView w base shape strides (.returned (.agg #[.int .i64 base, v1, v2])) w' := by
  refine ⟨v1, v2, rfl, (o1.lower h1).ints l1, (o2.lower h2).ints l2, o1.lower h1, o2.lower h2, fun n1 n2 => ?_, hx⟩
  obtain ⟨g1, e1, t1, _⟩ := o1.lt n1
  obtain ⟨g2, e2, t2, _⟩ := o2.lt n2
  rw [e1, e2]
  rcases hd with ⟨hd, hm⟩ | ⟨hd, hm⟩
  · have := hd n1 g1 e1; simp; omega
  · have := hd n2 g2 e2; simp; omega

theorem Chg.three {lo : Nat} (w : World) (x y z : Value) : Chg lo (lo + 1) w (((w.setCell ⟨lo, 0, none⟩ x).setCell ⟨lo, 1, none⟩ y).setCell ⟨lo, 2, none⟩ z) :=
  (((Chg.refl lo (lo + 1) w).setCell (p := ⟨lo, 0, none⟩) (Nat.le_refl _) (Nat.lt_succ_self _) _).setCell (p := ⟨lo, 1, none⟩) (Nat.le_refl _) (Nat.lt_succ_self _) _).setCell (p := ⟨lo, 2, none⟩) (Nat.le_refl _) (Nat.lt_succ_self _) _

end Go.Proofs.Ytfbbnbpobojboaa

/- Walks: tidy views, a number put into a list (of the reference). -/
namespace Go.Proofs.Ytfbbnbpobojboaa
open Go.RowKit
set_option linter.unusedVariables false
set_option maxRecDepth 100000

end Go.Proofs.Ytfbbnbpobojboaa

/- Plain laws on views: indices in order, the cells of indices, ranks. -/
namespace Go.Proofs.Ytfbbnbpobojboaa
open Go.RowKit
set_option linter.unusedVariables false
set_option maxRecDepth 100000

/-- is it an index of a shape? -/
def IxOf : List Int → List Int → Prop
  | [], [] => True
  | e :: s, x :: r => (0 ≤ x ∧ x < e) ∧ IxOf s r
  | _, _ => False
theorem IxOf.len : ∀ {s r : List Int}, IxOf s r → r.length = s.length
  | [], [], _ => rfl
  | e :: s, x :: r, h => by simp [IxOf.len h.2]
  | [], x :: r, h => h.elim
  | e :: s, [], h => h.elim
theorem IxOf.pos : ∀ {s r : List Int}, IxOf s r → ∀ e ∈ s, 1 ≤ e
  | [], _, _ => by simp
  | e :: s, x :: r, h => by
    intro q hq
    rcases List.mem_cons.1 hq with rfl | hq
    · have := h.1; omega
    · exact IxOf.pos h.2 q hq
  | e :: s, [], h => h.elim
end Go.Proofs.Ytfbbnbpobojboaa

/- Plain laws on views: the cells of all indices, views that are drawn out of views. -/
namespace Go.Proofs.Ytfbbnbpobojboaa
open Go.RowKit
set_option linter.unusedVariables false
set_option maxRecDepth 100000

theorem view_small {b : Int} {s t : List Int} (h : viewB b s t = true) : Small s := Small.of (viewB_in h).1
/-- what makes a view one -/
theorem viewB_mk {b : Int} {s t : List Int} (h1 : shapeB s = true) (h2 : t.length = s.length) (h3 : 0 ≤ b ∧ b ≤ 60) (h4 : ∀ x ∈ t, -60 ≤ x ∧ x ≤ 60) (h5 : ∀ x ∈ offsL b s t, 0 ≤ x ∧ x ≤ 59) : viewB b s t = true := by
  rw [viewB_end (by rw [h1, decide_eq_true h2]; simp [inB]; omega) (by rw [List.all_eq_true]; intro x hx; have := h4 x hx; simp [inB]; omega), any_out, List.all_eq_true]
  intro x hx; have := h5 x hx; simp [inB]; omega

end Go.Proofs.Ytfbbnbpobojboaa

/- Plain laws on views: the cell at a rank, indices one step apart. -/
namespace Go.Proofs.Ytfbbnbpobojboaa
open Go.RowKit
set_option linter.unusedVariables false
set_option maxRecDepth 100000

theorem offs_count {b : Int} {s t : List Int} : (offsL b s t).length = (countL s).toNat := by unfold offsL; simp

end Go.Proofs.Ytfbbnbpobojboaa

/- Plain laws on views: dimensions as pairs, in any order; what makes a view one, by its least and greatest cell. -/
namespace Go.Proofs.Ytfbbnbpobojboaa
open Go.RowKit
set_option linter.unusedVariables false
set_option maxRecDepth 100000

theorem viewB_zero {b : Int} {s t : List Int} (hc : countL s = 0) : viewB b s t = true ↔ (shapeB s = true ∧ t.length = s.length ∧ (0 ≤ b ∧ b ≤ 60) ∧ (∀ x ∈ t, -60 ≤ x ∧ x ≤ 60)) := by
  constructor
  · intro h
    obtain ⟨h1, h2, h3, h4, h5⟩ := viewB_in h
    exact ⟨h1, h2, h3, h4⟩
  · rintro ⟨h1, h2, h3, h4⟩
    exact viewB_mk h1 h2 h3 h4 (by rw [offsL_zero hc]; intro x hx; cases hx)

end Go.Proofs.Ytfbbnbpobojboaa

/- Walks: MeetRanges of the program and of the reference. -/
namespace Go.Proofs.Ytfbbnbpobojboaa
open Go.RowKit
set_option linter.unusedVariables false
set_option maxRecDepth 100000

end Go.Proofs.Ytfbbnbpobojboaa

/- Walks: what is asked of ranges: lengths, numbers, places, covers. -/
namespace Go.Proofs.Ytfbbnbpobojboaa
open Go.RowKit
set_option linter.unusedVariables false
set_option maxRecDepth 100000

end Go.Proofs.Ytfbbnbpobojboaa

/- Walks: slices of the reference: valid ones, ends, indices, and what a slice takes of a range. -/
namespace Go.Proofs.Ytfbbnbpobojboaa
open Go.RowKit
set_option linter.unusedVariables false
set_option maxRecDepth 100000

end Go.Proofs.Ytfbbnbpobojboaa

/- Plain laws: numbers in a row and their normal range; a view of some indices of a dimension. -/
namespace Go.Proofs.Ytfbbnbpobojboaa
open Go.RowKit
set_option linter.unusedVariables false
set_option maxRecDepth 100000

theorem getD_mem {s : List Int} {d : Nat} (hd : d < s.length) : s.getD d 0 ∈ s := by
  have : s.getD d 0 = s[d] := by simp [hd]
  rw [this]; exact List.getElem_mem hd

/-- where an element lies -/
theorem Ints.at {w : World} {lo : Nat} {a : Option Addr} {n c : Nat} {xs : List Int} (h : Ints w lo (.slice a n c) xs) (i : Nat) (hi : i < xs.length) : ∃ b off, a = some ⟨b, off, none⟩ ∧ w.cell? ⟨b, off + i, none⟩ = some (.int .i64 (xs.getD i 0)) := by
  obtain ⟨a', cap, hv, h1, h2, h3, h4⟩ := h
  cases hv
  obtain ⟨b, off, ha, hb, hc, hf⟩ := h4 i hi
  exact ⟨b, off, ha, hc⟩

end Go.Proofs.Ytfbbnbpobojboaa

/- A region that draws its order, shown once for every order: each operation is shown at whatever world may stand when it comes up, from what those told that it waits for; what each tells must last. No condition. -/
namespace Go.Proofs.Ytfbbnbpobojboaa.RG
open Go
set_option linter.unusedVariables false
section
variable {P : Program} {ops : Array Oper} {md : Region.Mode}

def dst (ops : Array Oper) (i : Nat) : Option Tmp := (ops[i]?).bind (·.dst)
/-- facts told one by one -/
def Alls (F : Nat → Prop) : Nat → Nat → Prop
  | _, 0 => True
  | k, m+1 => F k ∧ Alls F (k+1) m
theorem Alls.mk {F : Nat → Prop} : ∀ (m k : Nat), (∀ i, i < m → F (k + i)) → Alls F k m
  | 0, k, _ => trivial
  | m+1, k, h => ⟨h 0 (by omega), Alls.mk m (k+1) fun i hi => by have := h (i+1) (by omega); rwa [show k + (i + 1) = k + 1 + i by omega] at this⟩

end
end Go.Proofs.Ytfbbnbpobojboaa.RG

/- Walks: the reader of the drawn arguments: its numbers. -/
namespace Go.Proofs.Ytfbbnbpobojboaa
open Go.RowKit
set_option linter.unusedVariables false
set_option maxRecDepth 100000

/-- a slice of a few bytes, in blocks below hi -/
def Bys (w : World) (hi : Nat) (a : Option Addr) (n cap : Nat) : Prop :=
  n ≤ cap ∧ cap ≤ maxLen ∧ n ≤ 2000 ∧ ∀ i, i < n → ∃ b off x, a = some ⟨b, off, none⟩ ∧ b < hi ∧ w.cell? ⟨b, off + i, none⟩ = some (.int .u8 x) ∧ 0 ≤ x ∧ x < 256
/-- the reader at block rb, of which at most k numbers were asked -/
structure Rd (w : World) (rb k : Nat) : Prop where
  ex : ∃ a n cap p, (0 ≤ p ∧ p ≤ (k : Int)) ∧ w.cell? ⟨rb, 0, none⟩ = some (.slice a n cap) ∧ w.cell? ⟨rb, 1, none⟩ = some (.int .i64 p) ∧ w.frozen? ⟨rb, 1, none⟩ = false ∧ Bys w rb a n cap
theorem Bys.chg {w w' : World} {hi lo h2 : Nat} {a : Option Addr} {n cap : Nat} (h : Bys w hi a n cap) (k : Chg lo h2 w w') (hl : hi ≤ lo) : Bys w' hi a n cap := by
  obtain ⟨h1, h2, h3, h4⟩ := h
  refine ⟨h1, h2, h3, fun i hi => ?_⟩
  obtain ⟨b, off, x, ha, hb, hc, hx⟩ := h4 i hi
  exact ⟨b, off, x, ha, hb, k.cell (.inl (by omega)) hc, hx⟩
theorem Rd.ext {w w' : World} {rb k : Nat} (h : Rd w rb k) (hx : Ext w w') : Rd w' rb k := by
  obtain ⟨a, n, cap, p, hp, h0, h1, h2, hb⟩ := h.ex
  refine ⟨a, n, cap, p, hp, hx.cell h0, hx.cell h1, (hx.frule rb 1 (qB h1)).trans h2, ?_⟩
  obtain ⟨g1, g2, g3, g4⟩ := hb
  refine ⟨g1, g2, g3, fun i hi => ?_⟩
  obtain ⟨b, off, x, ha, hbb, hc, hxx⟩ := g4 i hi
  exact ⟨b, off, x, ha, hbb, hx.cell hc, hxx⟩
theorem Rd.mono {w : World} {rb k k' : Nat} (h : Rd w rb k) (hk : k ≤ k') : Rd w rb k' := by
  obtain ⟨a, n, cap, p, hp, r⟩ := h.ex
  exact ⟨a, n, cap, p, by omega, r⟩
theorem Rd.lt {w : World} {rb k : Nat} (h : Rd w rb k) : rb < w.heap.size := by
  obtain ⟨a, n, cap, p, hp, h0, _⟩ := h.ex
  exact qB h0
/-- cells of other blocks than the reader's -/
theorem Rd.chgO {w w' : World} {rb k lo hi : Nat} (h : Rd w rb k) (c : Chg lo hi w w') (hl : rb < lo) : Rd w' rb k := by
  obtain ⟨a, n, cap, p, hp, h0, h1, h2, hb⟩ := h.ex
  refine ⟨a, n, cap, p, hp, c.cell (.inl hl) h0, c.cell (.inl hl) h1, ?_, hb.chg c (by omega)⟩
  exact (World.frozen?_of_block (a := ⟨rb, 1, none⟩) (c.block rb (qB h1) (.inl hl))).trans h2

/-- the bytes that the law was called with -/
def BysIn (w : World) (a : Option Addr) (n cap : Nat) : Prop :=
  n ≤ cap ∧ cap ≤ maxLen ∧ ∀ i, i < n → ∃ b off x, a = some ⟨b, off, none⟩ ∧ w.cell? ⟨b, off + i, none⟩ = some (.int .u8 x) ∧ 0 ≤ x ∧ x < 256
theorem Rd.alloc {w : World} {rb k : Nat} (h : Rd w rb k) (o : Obj) : Rd (w.alloc o) rb k := h.ext ((Ext.refl _).alloc _)
theorem Rd.drew {w : World} {rb k : Nat} (h : Rd w rb k) : Rd w.drew rb k := h.ext ((Ext.refl _).drew)
theorem Rd.drewN {w : World} {rb k : Nat} (h : Rd w rb k) (n : Nat) : Rd (w.drewN n) rb k := h.ext ((Ext.refl _).drewN n)
theorem Rd.set {w : World} {rb k : Nat} {a : Addr} (h : Rd w rb k) (ha : rb < a.block) (u : Value) : Rd (w.setCell a u) rb k :=
  h.chgO ((Chg.refl a.block (a.block + 1) w).setCell (p := a) (Nat.le_refl _) (Nat.lt_succ_self _) u) ha
theorem Rd.set2 {w : World} {rb k : Nat} {a : Addr} {u : Value} (ha : rb < a.block) (h : Rd w rb k) : Rd (w.setCell a u) rb k := h.set ha u
/-- what was there before, but the reader, is as it was -/
def Rch (rb : Nat) (w w' : World) : Prop := Chg rb (rb + 1) w w'
theorem Rch.refl (rb : Nat) (w : World) : Rch rb w w := Chg.refl _ _ _
theorem Rch.step {rb : Nat} {w a b : World} (h : Rch rb w a) (k : Chg rb (rb + 1) a b) : Rch rb w b := Chg.trans h k
theorem Rch.alloc {rb : Nat} {w w' : World} (h : Rch rb w w') (o : Obj) : Rch rb w (w'.alloc o) := Chg.ext h ((Ext.refl _).alloc _)
theorem Rch.drew {rb : Nat} {w w' : World} (h : Rch rb w w') : Rch rb w w'.drew := Chg.ext h ((Ext.refl _).drew)
theorem Rch.drewN {rb : Nat} {w w' : World} (h : Rch rb w w') (n : Nat) : Rch rb w (w'.drewN n) := Chg.ext h ((Ext.refl _).drewN n)
theorem Rch.ext {rb : Nat} {w w' w'' : World} (h : Rch rb w w') (k : Ext w' w'') : Rch rb w w'' := Chg.ext h k
theorem Rch.set {rb : Nat} {w w' : World} (h : Rch rb w w') {a : Addr} (ha : w.heap.size ≤ a.block) (u : Value) : Rch rb w (w'.setCell a u) :=
  ⟨h.os, h.tape, h.output, by simpa using h.size, fun k hk hd => (Below.heap_setCell _ _ _ _ (by omega)).trans (h.block k hk hd)⟩
theorem Rch.size {rb : Nat} {w w' : World} (h : Rch rb w w') : w.heap.size ≤ w'.heap.size := Chg.size h
theorem Rch.rule {rb : Nat} {w w' : World} (h : Chg rb (rb + 1) w w') : ∀ b o, rb < b → b < w.heap.size → w'.cell? ⟨b, o, none⟩ = w.cell? ⟨b, o, none⟩ := fun b o h1 h2 => World.cell?_of_block (a := ⟨b, o, none⟩) (h.block b h2 (.inr h1))
theorem Rch.frule {rb : Nat} {w w' : World} (h : Chg rb (rb + 1) w w') : ∀ b o, rb < b → b < w.heap.size → w'.frozen? ⟨b, o, none⟩ = w.frozen? ⟨b, o, none⟩ := fun b o h1 h2 => World.frozen?_of_block (a := ⟨b, o, none⟩) (h.block b h2 (.inr h1))

/-- three numbers at a block -/
def RgAt (w : World) (g : Nat) : Prop := ∃ x y z : Int, w.cell? ⟨g, 0, none⟩ = some (.int .i64 x) ∧ w.cell? ⟨g, 1, none⟩ = some (.int .i64 y) ∧ w.cell? ⟨g, 2, none⟩ = some (.int .i64 z) ∧ w.frozen? ⟨g, 0, none⟩ = false ∧ w.frozen? ⟨g, 1, none⟩ = false ∧ w.frozen? ⟨g, 2, none⟩ = false
theorem RgAt.lt {w : World} {g : Nat} (h : RgAt w g) : g < w.heap.size := by obtain ⟨x, y, z, h, _⟩ := h; exact qB h

theorem BysIn.ext {w w' : World} {a : Option Addr} {n cap : Nat} (h : BysIn w a n cap) (hx : Ext w w') : BysIn w' a n cap := by
  obtain ⟨h1, h2, h3⟩ := h
  refine ⟨h1, h2, fun i hi => ?_⟩
  obtain ⟨b, off, x, ha, hc, hx2⟩ := h3 i hi
  exact ⟨b, off, x, ha, hx.cell hc, hx2⟩

theorem Rch.toExt' {rb : Nat} {w0 w w' : World} (h : Chg rb (rb + 1) w w') (hb : w0.heap.size ≤ rb) (hx : Ext w0 w) : Ext w0 w' := hx.chg h hb

end Go.Proofs.Ytfbbnbpobojboaa

/- A region that draws its order, some reads taken first under a condition on the world, which need not last behind the operations that wait for all those reads (a store to a cell that is read). No condition. -/
namespace Go.Proofs.Ytfbbnbpobojboaa
open Go
set_option linter.unusedVariables false
section
variable {P : Program} {ops : Array Oper} {Q : Exit → Act → World → Prop} {md : Region.Mode} {S : World → Prop} {tl : Nat → Bool}

/-- whatever order is picked; the condition holds behind each operation but those of tl -/
def wpTail (P : Program) (md : Region.Mode) (ops : Array Oper) (Q : Exit → Act → World → Prop) (S : World → Prop) (tl : Nat → Bool) : Nat → Array Bool → Act → World → Prop
  | 0, listed, a, w => Region.ready md ops listed = [] ∧ Q .normal a w
  | n + 1, listed, a, w =>
    (Region.ready md ops listed = [] → Q .normal a w) ∧
    ∀ i ∈ Region.ready md ops listed, wpOp P ops Q i (fun a' w' => (tl i = false → S w') ∧ wpTail P md ops Q S tl n (listed.setIfInBounds i true) a' w') a w

theorem wpTail.any : ∀ (n : Nat) (listed : Array Bool) (a : Act) (w : World), wpTail P md ops Q S tl n listed a w → wpAny P md ops Q n listed a w
  | 0, _, _, _, h => h
  | n + 1, _, _, _, h => ⟨h.1, fun i hi => wpOp_mono (fun a' w' h' => wpTail.any n _ a' w' h'.2) (h.2 i hi)⟩

/-- what waits for i -/
def waitsB (md : Region.Mode) (ops : Array Oper) (tl : Nat → Bool) (i : Nat) : Bool :=
  (List.range ops.size).all fun j => !tl j || (match ops[j]? with | some o => o.after.toList.any fun e => Region.binds md e && e.on == i | none => true)

theorem wpTail.first {i : Nat} {oi : Oper} {v : Value} (hi : ops[i]? = some oi) (hsel : ∀ (j : Nat) (o : Oper) cs b, ops[j]? = some o → o.op ≠ .select cs b)
    (hQ : ∀ c a w, Q (.panic c) (a.put oi.dst v) w → Q (.panic c) a w) (hti : tl i = false) (hwt : waitsB md ops tl i = true) :
    ∀ (n : Nat) (listed : Array Bool) (a : Act) (w : World),
      (∀ j oj, ops[j]? = some oj → j ≠ i → listed.getD j true = false → (∀ e ∈ oj.after, Region.binds md e = true → e.on ≠ i) → oi.apart ops oj = true) →
      i ∈ Region.ready md ops listed → YieldsIf P ops S oi v a → S w →
      wpTail P md ops Q S tl n (listed.setIfInBounds i true) (a.put oi.dst v) w → wpTail P md ops Q S tl (n + 1) listed a w := by
  intro n
  induction n with
  | zero =>
    intro listed a w _ hr hy hS H
    refine ⟨fun h => (by rw [h] at hr; cases hr), fun j hj => ?_⟩
    by_cases hji : j = i
    · subst hji; exact hy.wpOp hi hS ⟨fun _ => hS, H⟩
    · have h0 := ready_mono hj hji
      rw [H.1] at h0
      cases h0
  | succ n ih =>
    intro listed a w hfree hr hy hS H
    refine ⟨fun h => (by rw [h] at hr; cases hr), fun j hj => ?_⟩
    by_cases hji : j = i
    · subst hji; exact hy.wpOp hi hS ⟨fun _ => hS, H⟩
    · have h1 := H.2 j (ready_mono hj hji)
      obtain ⟨hjun, oj, hoj, hall⟩ := mem_ready.1 hj
      have hnot : ∀ e ∈ oj.after, Region.binds md e = true → e.on ≠ i := fun e he hb heq => by
        have h3 := hall e he hb
        have h4 := (mem_ready.1 hr).1
        rw [heq] at h3
        rcases Nat.lt_or_ge i listed.size with h' | h'
        · simp [h'] at h3 h4; rw [h4] at h3; cases h3
        · simp [Array.getElem?_eq_none h'] at h3
      have htj : tl j = false := by
        cases ht : tl j with
        | false => rfl
        | true =>
          have hlt := (Array.getElem?_eq_some_iff.1 hoj).1
          unfold waitsB at hwt
          rw [List.all_eq_true] at hwt
          have h5 := hwt j (List.mem_range.2 hlt)
          rw [ht, hoj] at h5
          simp only [Bool.not_true, Bool.false_or, List.any_eq_true, Bool.and_eq_true, beq_iff_eq] at h5
          obtain ⟨e, he, hb, hon⟩ := h5
          exact absurd hon (hnot e (by simpa using he) hb)
      have h2 := wpOp_putIf hoj (hfree j oj hoj hji hjun hnot) (fun cs b => hsel i oi cs b hi) (fun cs b => hsel j oj cs b hoj) hQ hy h1
      have hfree' : ∀ k ok, ops[k]? = some ok → k ≠ i → (listed.setIfInBounds j true).getD k true = false →
          (∀ e ∈ ok.after, Region.binds md e = true → e.on ≠ i) → oi.apart ops ok = true := fun k ok hk hki hun hno => by
        refine hfree k ok hk hki ?_ hno
        by_cases hjk : j = k
        · subst hjk; exact hjun
        · rw [getD_set_ne true hjk] at hun; exact hun
      refine wpOp_mono (fun a' w' h3 => ⟨h3.2.1, ih (listed.setIfInBounds j true) a' w' hfree' (ready_mono hr (Ne.symm hji)) h3.1 (h3.2.1 htj) ?_⟩) h2
      rw [Array.setIfInBounds_comm _ _ hji]
      exact h3.2.2

theorem wpTail_take {i : Nat} {oi : Oper} {v : Value} {n : Nat} {listed : Array Bool} {a : Act} {w : World} (hi : ops[i]? = some oi)
    (hs : Region.noSelect ops = true) (hf : Region.free md ops listed i = true) (hr : (Region.ready md ops listed).contains i = true) (hti : tl i = false) (hwt : waitsB md ops tl i = true)
    (hQ : ∀ c a w, Q (.panic c) (a.put oi.dst v) w → Q (.panic c) a w) (hy : YieldsIf P ops S oi v a) (hS : S w)
    (h : wpTail P md ops Q S tl n (listed.setIfInBounds i true) (a.put oi.dst v) w) : wpTail P md ops Q S tl (n + 1) listed a w :=
  wpTail.first hi (Region.noSelect_spec hs) hQ hti hwt n listed a w (Region.free_spec hi hf) (by simpa using hr) hy hS h

theorem qTk {oi : Oper} {v : Value} {n : Nat} {listed : Array Bool} {a : Act} {w : World} (i : Nat) (hi : ops[i]? = some oi) (hy : YieldsIf P ops S oi v a)
    (h : wpTail P md ops Q S tl n (listed.setIfInBounds i true) (a.put oi.dst v) w)
    (hs : Region.noSelect ops = true := by kernel_rfl) (hf : Region.free md ops listed i = true := by kernel_rfl) (hr : (Region.ready md ops listed).contains i = true := by kernel_rfl) (hti : tl i = false := by rfl) (hwt : waitsB md ops tl i = true := by kernel_rfl)
    (hQ : ∀ c a w, Q (.panic c) (a.put oi.dst v) w → Q (.panic c) a w := by exact fun _ _ _ h => h) (hS : S w := by assumption) :
    wpTail P md ops Q S tl (n + 1) listed a w := wpTail_take hi hs hf hr hti hwt hQ hy hS h
/-- one operation comes up, and no other can -/
theorem wpTail_one {i : Nat} {o : Oper} {n : Nat} {listed : Array Bool} {a : Act} {w : World} (hr : Region.ready md ops listed = [i]) (ho : ops[i]? = some o) (ht : tl i = false)
    (h : ∀ K' : Act → World → Prop, Shut (∀ a w, S w → (S w → wpTail P md ops Q S tl n (listed.setIfInBounds i true) a w) → K' a w) → if Region.wanted o (yielded ops a.tmps) = true then Oper.wp P o a w K' Q else K' (a.put o.dst undef) w) :
    wpTail P md ops Q S tl (n + 1) listed a w := by
  refine ⟨fun h0 => (by rw [h0] at hr; cases hr), ?_⟩
  rw [hr]
  intro j hj
  obtain rfl : j = i := by simpa using hj
  exact wpOp_step ho (fun K' hK => h K' (fun a w hS hW => hK a w ⟨fun _ => hS, hW hS⟩))
/-- an operation that the condition need not outlast comes up, and no other can -/
theorem wpTail_last {i : Nat} {o : Oper} {n : Nat} {listed : Array Bool} {a : Act} {w : World} (hr : Region.ready md ops listed = [i]) (ho : ops[i]? = some o) (ht : tl i = true)
    (h : ∀ K' : Act → World → Prop, Shut (∀ a w, wpTail P md ops Q S tl n (listed.setIfInBounds i true) a w → K' a w) → if Region.wanted o (yielded ops a.tmps) = true then Oper.wp P o a w K' Q else K' (a.put o.dst undef) w) :
    wpTail P md ops Q S tl (n + 1) listed a w := by
  refine ⟨fun h0 => (by rw [h0] at hr; cases hr), ?_⟩
  rw [hr]
  intro j hj
  obtain rfl : j = i := by simpa using hj
  exact wpOp_step ho (fun K' hK => h K' (fun a w hW => hK a w ⟨(fun h => (by rw [ht] at h; cases h)), hW⟩))
theorem wpTail_done {listed : Array Bool} {a : Act} {w : World} (hr : Region.ready md ops listed = []) (h : Q .normal a w) : ∀ n, wpTail P md ops Q S tl n listed a w
  | 0 => ⟨hr, h⟩
  | _ + 1 => ⟨fun _ => h, by rw [hr]; simp⟩
theorem wp_region_tail {id : Nat} {a : Act} {w : World} (tl : Nat → Bool) (hm : P.follows .mixedOrders = true) (hS : S w.drew)
    (h : S w.drew → wpTail P .any ops Q S tl ops.size (Array.replicate ops.size false) a w.drew) : (Code.region id ops true).wp P Q a w :=
  wp_region_any hm (wpTail.any _ _ _ _ (h hS))
end
end Go.Proofs.Ytfbbnbpobojboaa

/- Words for walks: rows beside changed blocks, where elements lie, normal ranges. No condition. -/
namespace Go.Proofs.Ytfbbnbpobojboaa
open Go.RowKit
set_option linter.unusedVariables false
set_option maxRecDepth 100000

theorem Chg.frzO {lo hi : Nat} {w w' : World} (k : Chg lo hi w w') {b o : Nat} {f : Bool} (hd : b < lo ∨ hi ≤ b) (hb : b < w.heap.size) (hf : w.frozen? ⟨b, o, none⟩ = f) : w'.frozen? ⟨b, o, none⟩ = f :=
  (World.frozen?_of_block (a := ⟨b, o, none⟩) (k.block b hb hd)).trans hf
theorem OwnI.chgN {lo hi base g n c : Nat} {w w' : World} {xs : List Int} (h : OwnI w base (.slice (some ⟨g, 0, none⟩) n c) xs) (k : Chg lo hi w w') (hd : g < lo ∨ hi ≤ g) : OwnI w' base (.slice (some ⟨g, 0, none⟩) n c) xs := by
  refine ⟨h.1, ?_⟩
  rcases h.2 with ⟨h2, _⟩ | ⟨g', cap, cur, hv, hg, hh, r⟩
  · cases h2
  · cases hv
    exact .inr ⟨g, _, cur, rfl, hg, (k.block g (Array.getElem?_eq_some_iff.1 hh).1 hd).trans hh, r⟩
theorem OwnI.set {base g n c : Nat} {w : World} {xs : List Int} (h : OwnI w base (.slice (some ⟨g, 0, none⟩) n c) xs) (i : Nat) (x : Int) (hi : i < xs.length) : OwnI (w.setCell ⟨g, i, none⟩ (.int .i64 x)) base (.slice (some ⟨g, 0, none⟩) n c) (xs.set i x) := by
  have hn : n = xs.length := by
    rcases h.2 with ⟨h2, _⟩ | ⟨g', cap, cur, hv, _⟩
    · cases h2
    · cases hv; rfl
  subst hn
  unfold OwnI
  rw [List.length_set]
  exact own_set h i x hi
theorem OwnI.cell {base g n c : Nat} {w : World} {xs : List Int} (h : OwnI w base (.slice (some ⟨g, 0, none⟩) n c) xs) (i : Nat) (hi : i < xs.length) : w.cell? ⟨g, i, none⟩ = some (.int .i64 (xs.getD i 0)) ∧ w.frozen? ⟨g, i, none⟩ = false := by
  have hn : n = xs.length := by
    rcases h.2 with ⟨h2, _⟩ | ⟨g', cap, cur, hv, _⟩
    · cases h2
    · cases hv; rfl
  subst hn
  exact own_cell h i hi
theorem OwnI.len {base g n c : Nat} {w : World} {xs : List Int} (h : OwnI w base (.slice (some ⟨g, 0, none⟩) n c) xs) (hn : n ≤ 4194304 := by omega) : xs.length ≤ 4194304 := by
  rcases h.2 with ⟨h2, _⟩ | ⟨g', cap, cur, hv, _⟩
  · cases h2
  · cases hv; exact hn
theorem OwnI.any {base : Nat} {w : World} {v : Value} {xs : List Int} (h : OwnI w base v xs) : ∃ a n c, v = .slice a n c := by
  rcases h.2 with ⟨rfl, _⟩ | ⟨g', cap, cur, rfl, _⟩
  · exact ⟨_, _, _, rfl⟩
  · exact ⟨_, _, _, rfl⟩
theorem Ints.any {lo : Nat} {w : World} {v : Value} {xs : List Int} (h : Ints w lo v xs) : ∃ a n c, v = .slice a n c := by
  obtain ⟨a, c, rfl, _⟩ := h
  exact ⟨_, _, _, rfl⟩
/-- two rows of ints side by side -/
structure Two (B : Nat) (wr : World) (v1 v2 : Value) (xs ys : List Int) : Prop where
  o1 : OwnI wr B v1 xs
  o2 : OwnI wr B v2 ys
  sep : ∀ g, v1.ownBlock = some g → v2.ownBlock ≠ some g
  size : B ≤ wr.heap.size
theorem Two.nil {B : Nat} {w : World} (h : B ≤ w.heap.size) : Two B w (.slice none 0 0) (.slice none 0 0) [] [] := ⟨OwnI.nil _ _, OwnI.nil _ _, (fun g h => (by cases h)), h⟩
theorem Two.ext {B : Nat} {w w' : World} {v1 v2 : Value} {xs ys : List Int} (h : Two B w v1 v2 xs ys) (hx : Ext w w') : Two B w' v1 v2 xs ys := ⟨h.o1.ext hx, h.o2.ext hx, h.sep, Nat.le_trans h.size hx.size⟩
theorem Two.chg {B lo hi : Nat} {w w' : World} {v1 v2 : Value} {xs ys : List Int} (h : Two B w v1 v2 xs ys) (k : Chg lo hi w w') (hb : hi ≤ B) : Two B w' v1 v2 xs ys := ⟨h.o1.chg k hb, h.o2.chg k hb, h.sep, Nat.le_trans h.size k.size⟩
theorem own_lt {B : Nat} {w : World} {v : Value} {xs : List Int} (h : OwnI w B v xs) {g : Nat} (hg : v.ownBlock = some g) : B ≤ g ∧ g < w.heap.size := by
  rcases h.2 with ⟨rfl, _⟩ | ⟨g', cap, cur, rfl, hb, hh, _⟩
  · cases hg
  · cases hg; exact ⟨hb, (Array.getElem?_eq_some_iff.1 hh).1⟩
end Go.Proofs.Ytfbbnbpobojboaa

/- Walks: cutDim of the reference. -/
namespace Go.Proofs.Ytfbbnbpobojboaa
open Go.RowKit
set_option linter.unusedVariables false
set_option maxRecDepth 100000


theorem PView.own {w w' : World} {base : Int} {shape strides : List Int} {v1 v2 : Value} (o1 : OwnZ w' w.heap.size v1 shape) (o2 : OwnZ w' w.heap.size v2 strides) (hd : shape ≠ [] → strides ≠ [] → v1.ownBlock ≠ v2.ownBlock) (l1 : shape.length ≤ 4194304) (l2 : strides.length ≤ 4194304) (hx : Ext w w') :
    PView w base shape strides (.returned (.agg #[.int .i64 base, v1, v2])) w' := ⟨v1, v2, rfl, o1.ints l1, o2.ints l2, o1, o2, hd, hx⟩

end Go.Proofs.Ytfbbnbpobojboaa

/- Walks: SliceDim and FlipDim of the reference. -/
namespace Go.Proofs.Ytfbbnbpobojboaa
open Go.RowKit
set_option linter.unusedVariables false
set_option maxRecDepth 100000


/-- a view with a bool -/
abbrev VBool := Int × List Int × List Int × Bool
def PVB (w : World) (x : VBool) : Ending → World → Prop := PViewB w x.1 x.2.1 x.2.2.1 x.2.2.2
def noV : VBool := (0, [], [], false)
theorem PVB.no {w w' : World} {x : VBool} (h : x = noV) (hx : Ext w w') : PVB w x (.returned (.tuple #[.agg #[.int .i64 0, .slice none 0 0, .slice none 0 0], .bool false])) w' := by
  subst h; exact PViewB.no hx
theorem PVB.yes {w w' : World} {x : VBool} {b : Int} {s t : List Int} {v1 v2 : Value} (h : x = (b, s, t, true)) (o1 : OwnZ w' w.heap.size v1 s) (o2 : OwnZ w' w.heap.size v2 t) (hd : s ≠ [] → t ≠ [] → v1.ownBlock ≠ v2.ownBlock) (l1 : s.length ≤ 4194304) (l2 : t.length ≤ 4194304) (hx : Ext w w') :
    PVB w x (.returned (.tuple #[.agg #[.int .i64 b, v1, v2], .bool true])) w' := by
  subst h; exact ⟨v1, v2, rfl, o1.ints l1, o2.ints l2, o1, o2, hd, hx⟩

end Go.Proofs.Ytfbbnbpobojboaa

/- Walks: permuted of the reference. -/
namespace Go.Proofs.Ytfbbnbpobojboaa
open Go.RowKit
set_option linter.unusedVariables false
set_option maxRecDepth 100000

end Go.Proofs.Ytfbbnbpobojboaa

/- Walks: insert of the reference. -/
namespace Go.Proofs.Ytfbbnbpobojboaa
open Go.RowKit
set_option linter.unusedVariables false
set_option maxRecDepth 100000

set_option maxHeartbeats 3200000 in
theorem insert_c (xs : List Int) (v : Value) (i : Nat) (x : Int) (w : World) (lo : Nat) (hv : Ints w lo v xs) (hi : i ≤ xs.length) (hl : xs.length ≤ 100000) :
  Calls Try.prog 75 #[v, .int .i64 (i : Int), .int .i64 x] w (PInts w (xs.take i ++ [x] ++ xs.drop i)) := by
 have hlen := ints_len hv
 have hv0 := hv
 obtain ⟨a, c, rfl, hc, hcm, hb2, hat⟩ := hv
 have ht := hv0.take i (by omega)
 by_cases hne : xs = []
 rotate_left
 obtain ⟨b, off, rfl⟩ : ∃ b off, a = some ⟨b, off, none⟩ := by
  obtain ⟨b, off, h, _⟩ := hat 0 (by cases xs <;> simp_all)
  exact ⟨b, off, h⟩
 by_cases hci : ¬ c = i
 ·
  have hd := hv0.drop1 i (by omega) hci
  have g1 : (i : Int) ≤ c := by omega
  have g2 : (i : Int) ≤ xs.length := by omega
  have g3 : (0 : Int) ≤ i := by omega
  go_enter Try.func75, Try.ntmps75
  go_wp2_with fail
  refine wp_region_held_drew (S := fun _ => True) qKr trivial (fun hHeld => ?_)
  refine qHk (v := ?_) 1 rfl (.inl ⟨by rfl, ?_⟩) ?_
  rotate_left
  ·
   (intro w hSw; (try dsimp only at hSw); go_simp; try with_reducible rfl)
  try simp only [Act.put, qa, qb, qc, qD, qE, qF]
  refine qHk (v := ?_) 2 rfl (.inl ⟨by rfl, ?_⟩) ?_
  rotate_left
  ·
   (intro w hSw; (try dsimp only at hSw); go_simp; try with_reducible rfl)
  try simp only [Act.put, qa, qb, qc, qD, qE, qF]
  refine qHk (v := ?_) 3 rfl (.inl ⟨by rfl, ?_⟩) ?_
  rotate_left
  ·
   (intro w hSw; (try dsimp only at hSw); go_simp; try with_reducible rfl)
  try simp only [Act.put, qa, qb, qc, qD, qE, qF]
  refine qHk (v := ?_) 5 rfl (.inl ⟨by rfl, ?_⟩) ?_
  rotate_left
  ·
   (intro w hSw; (try dsimp only at hSw); go_simp; try with_reducible rfl)
  try simp only [Act.put, qa, qb, qc, qD, qE, qF]
  refine qHk (v := ?_) 8 rfl (.inl ⟨by rfl, ?_⟩) ?_
  rotate_left
  ·
   (intro w hSw; (try dsimp only at hSw); go_simp; try with_reducible rfl)
  try simp only [Act.put, qa, qb, qc, qD, qE, qF]
  refine qHk (v := ?_) 9 rfl (.inl ⟨by rfl, ?_⟩) ?_
  rotate_left
  ·
   (intro w hSw; (try dsimp only at hSw); go_simp; try with_reducible rfl)
  try simp only [Act.put, qa, qb, qc, qD, qE, qF]
  refine qHk (v := ?_) 10 rfl (.inl ⟨by rfl, ?_⟩) ?_
  rotate_left
  ·
   (intro w hSw; (try dsimp only at hSw); go_simp; try with_reducible rfl)
  try simp only [Act.put, qa, qb, qc, qD, qE, qF]
  refine wpAnyH_ready (rs := [0, 6]) qKr (by simp) ?_
  refine AllReadyH.cons rfl (fun K hK => ?_) (AllReadyH.cons rfl (fun K hK => ?_) AllReadyH.nil)
  ·
   skip
   try simp only [Act.put, qa, qb, qc, qD, qE, qF]
   go_simp
   refine hK.out _ _ trivial (fun hHeld => ?_)
   clear hK K
   try simp only [Act.put, qa, qb, qc, qD, qE, qF]
   refine wpAnyH_ready (rs := [4, 6]) qKr (by simp) ?_
   refine AllReadyH.cons rfl (fun K hK => ?_) (AllReadyH.cons rfl (fun K hK => ?_) AllReadyH.nil)
   ·
    skip
    refine step_app rfl (.tmp 7) (.tmp 10) rfl rfl rfl (OwnI.lit0 _ w.heap.size (by simp)) (by first | exact ht.ext qXo | exact Ints.nil _ w.heap.size _ _ (by omega) (by simp)) (by simp <;> omega) (by first | assumption | (simp; done) | (simp; omega) | omega) ?_
    intro v4 w4 o4 gr4 bl4 eq4
    refine hK.out _ _ trivial (fun hHeld => ?_)
    clear hK K
    try simp only [Act.put, qa, qb, qc, qD, qE, qF]
    have X4 : Ext w w4 := Ext.below (show Ext w _ from qXo) bl4 (by simp)
    have z4 : w.heap.size ≤ w4.heap.size := X4.size
    refine qHr 6 rfl (fun K hK => ?_)
    try simp only [Act.put, qa, qb, qc, qD, qE, qF]
    go_simp
    refine hK.out _ _ trivial (fun hHeld => ?_)
    clear hK K
    try simp only [Act.put, qa, qb, qc, qD, qE, qF]
    replace o4 := o4.ext (show Ext w4 (w4.alloc (.cells #[.int .i64 x] 3)) from qXo)
    refine qHr 7 rfl (fun K hK => ?_)
    refine step_app rfl (.tmp 11) (.tmp 13) rfl rfl rfl (o4) (Ints.one w4 w.heap.size x z4) (by simp <;> omega) (by first | assumption | (simp; done) | (simp; omega) | omega) ?_
    intro v7 w7 o7 gr7 bl7 eq7
    refine hK.out _ _ trivial (fun hHeld => ?_)
    clear hK K
    try simp only [Act.put, qa, qb, qc, qD, qE, qF]
    have X7 : Ext w w7 := Ext.below (X4.trans qXo) bl7 (Nat.le_refl _)
    have z7 : w.heap.size ≤ w7.heap.size := X7.size
    refine qHr 11 rfl (fun K hK => ?_)
    refine step_app rfl (.tmp 14) (.tmp 17) rfl rfl rfl (o7) (by first | exact hd.ext X7 | exact Ints.nil _ w.heap.size _ _ (by omega) (by simp)) (by simp <;> omega) (by first | assumption | (simp; done) | (simp; omega) | omega) ?_
    intro v11 w11 o11 gr11 bl11 eq11
    refine hK.out _ _ trivial (fun hHeld => ?_)
    clear hK K
    try simp only [Act.put, qa, qb, qc, qD, qE, qF]
    have X11 : Ext w w11 := Ext.below X7 bl11 (Nat.le_refl _)
    refine qHr 12 rfl (fun K hK => ?_)
    try simp only [Act.put, qa, qb, qc, qD, qE, qF]
    go_simp
    refine hK.out _ _ trivial (fun hHeld => ?_)
    clear hK K
    try simp only [Act.put, qa, qb, qc, qD, qE, qF]
    refine wpAnyH_done qKr ?_ _
    clear hHeld
    go_wp2_with fail
    refine bodyPost_ret (v := v11) (by simp only [results, Try.results75]; go_simp) rfl ?_
    exact PInts.mkz (by first | exact o11.z | (rw [List.drop_eq_nil_of_le hc]; exact o11.z)) (Nat.le_refl _) (by simp <;> omega) X11
   ·
    skip
    try simp only [Act.put, qa, qb, qc, qD, qE, qF]
    go_simp
    refine hK.out _ _ trivial (fun hHeld => ?_)
    clear hK K
    try simp only [Act.put, qa, qb, qc, qD, qE, qF]
    refine qHr 4 rfl (fun K hK => ?_)
    have l0 : OwnI ((w.drew.alloc (.cells #[] 3)).alloc (.cells #[.int .i64 x] 3)) w.heap.size (.slice (some ⟨w.heap.size, 0, none⟩) 0 0) [] := (OwnI.lit0 w.drew w.heap.size (by simp)).ext ((Ext.refl _).alloc _)
    have l1 : Ints ((w.drew.alloc (.cells #[] 3)).alloc (.cells #[.int .i64 x] 3)) w.heap.size (.slice (some ⟨w.heap.size + 1, 0, none⟩) 1 1) [x] := by simpa using Ints.one (w.drew.alloc (.cells #[] 3)) w.heap.size x (by simp)
    refine step_app rfl (.tmp 7) (.tmp 10) rfl rfl rfl (l0) (by first | exact ht.ext qXo | exact Ints.nil _ w.heap.size _ _ (by omega) (by simp)) (by simp <;> omega) (by first | assumption | (simp; done) | (simp; omega) | omega) ?_
    intro v4 w4 o4 gr4 bl4 eq4
    refine hK.out _ _ trivial (fun hHeld => ?_)
    clear hK K
    try simp only [Act.put, qa, qb, qc, qD, qE, qF]
    have X4 : Ext w w4 := Ext.below (show Ext w _ from qXo) bl4 (by simp)
    have z4 : w.heap.size ≤ w4.heap.size := X4.size
    replace l1 := l1.keepG gr4 (fun b off h _ => by cases h; show (some w.heap.size : Option Nat) ≠ some (w.heap.size + 1); simp)
    refine qHr 7 rfl (fun K hK => ?_)
    refine step_app rfl (.tmp 11) (.tmp 13) rfl rfl rfl (o4) (l1) (by simp <;> omega) (by first | assumption | (simp; done) | (simp; omega) | omega) ?_
    intro v7 w7 o7 gr7 bl7 eq7
    refine hK.out _ _ trivial (fun hHeld => ?_)
    clear hK K
    try simp only [Act.put, qa, qb, qc, qD, qE, qF]
    have X7 : Ext w w7 := Ext.below (X4) bl7 (Nat.le_refl _)
    have z7 : w.heap.size ≤ w7.heap.size := X7.size
    refine qHr 11 rfl (fun K hK => ?_)
    refine step_app rfl (.tmp 14) (.tmp 17) rfl rfl rfl (o7) (by first | exact hd.ext X7 | exact Ints.nil _ w.heap.size _ _ (by omega) (by simp)) (by simp <;> omega) (by first | assumption | (simp; done) | (simp; omega) | omega) ?_
    intro v11 w11 o11 gr11 bl11 eq11
    refine hK.out _ _ trivial (fun hHeld => ?_)
    clear hK K
    try simp only [Act.put, qa, qb, qc, qD, qE, qF]
    have X11 : Ext w w11 := Ext.below X7 bl11 (Nat.le_refl _)
    refine qHr 12 rfl (fun K hK => ?_)
    try simp only [Act.put, qa, qb, qc, qD, qE, qF]
    go_simp
    refine hK.out _ _ trivial (fun hHeld => ?_)
    clear hK K
    try simp only [Act.put, qa, qb, qc, qD, qE, qF]
    refine wpAnyH_done qKr ?_ _
    clear hHeld
    go_wp2_with fail
    refine bodyPost_ret (v := v11) (by simp only [results, Try.results75]; go_simp) rfl ?_
    exact PInts.mkz (by first | exact o11.z | (rw [List.drop_eq_nil_of_le hc]; exact o11.z)) (Nat.le_refl _) (by simp <;> omega) X11
  ·
   skip
   try simp only [Act.put, qa, qb, qc, qD, qE, qF]
   go_simp
   refine hK.out _ _ trivial (fun hHeld => ?_)
   clear hK K
   try simp only [Act.put, qa, qb, qc, qD, qE, qF]
   refine qHr 0 rfl (fun K hK => ?_)
   try simp only [Act.put, qa, qb, qc, qD, qE, qF]
   go_simp
   refine hK.out _ _ trivial (fun hHeld => ?_)
   clear hK K
   try simp only [Act.put, qa, qb, qc, qD, qE, qF]
   refine qHr 4 rfl (fun K hK => ?_)
   have l0 : OwnI ((w.drew.alloc (.cells #[.int .i64 x] 3)).alloc (.cells #[] 3)) w.heap.size (.slice (some ⟨w.heap.size + 1, 0, none⟩) 0 0) [] := by simpa using (OwnI.lit0 (w.drew.alloc (.cells #[.int .i64 x] 3)) w.heap.size (by simp))
   have l1 : Ints ((w.drew.alloc (.cells #[.int .i64 x] 3)).alloc (.cells #[] 3)) w.heap.size (.slice (some ⟨w.heap.size, 0, none⟩) 1 1) [x] := (Ints.one w.drew w.heap.size x (by simp)).ext ((Ext.refl _).alloc _)
   refine step_app rfl (.tmp 7) (.tmp 10) rfl rfl rfl (l0) (by first | exact ht.ext qXo | exact Ints.nil _ w.heap.size _ _ (by omega) (by simp)) (by simp <;> omega) (by first | assumption | (simp; done) | (simp; omega) | omega) ?_
   intro v4 w4 o4 gr4 bl4 eq4
   refine hK.out _ _ trivial (fun hHeld => ?_)
   clear hK K
   try simp only [Act.put, qa, qb, qc, qD, qE, qF]
   have X4 : Ext w w4 := Ext.below (show Ext w _ from qXo) bl4 (by simp)
   have z4 : w.heap.size ≤ w4.heap.size := X4.size
   replace l1 := l1.keepG gr4 (fun b off h _ => by cases h; show (some (w.heap.size + 1) : Option Nat) ≠ some w.heap.size; simp)
   refine qHr 7 rfl (fun K hK => ?_)
   refine step_app rfl (.tmp 11) (.tmp 13) rfl rfl rfl (o4) (l1) (by simp <;> omega) (by first | assumption | (simp; done) | (simp; omega) | omega) ?_
   intro v7 w7 o7 gr7 bl7 eq7
   refine hK.out _ _ trivial (fun hHeld => ?_)
   clear hK K
   try simp only [Act.put, qa, qb, qc, qD, qE, qF]
   have X7 : Ext w w7 := Ext.below (X4) bl7 (Nat.le_refl _)
   have z7 : w.heap.size ≤ w7.heap.size := X7.size
   refine qHr 11 rfl (fun K hK => ?_)
   refine step_app rfl (.tmp 14) (.tmp 17) rfl rfl rfl (o7) (by first | exact hd.ext X7 | exact Ints.nil _ w.heap.size _ _ (by omega) (by simp)) (by simp <;> omega) (by first | assumption | (simp; done) | (simp; omega) | omega) ?_
   intro v11 w11 o11 gr11 bl11 eq11
   refine hK.out _ _ trivial (fun hHeld => ?_)
   clear hK K
   try simp only [Act.put, qa, qb, qc, qD, qE, qF]
   have X11 : Ext w w11 := Ext.below X7 bl11 (Nat.le_refl _)
   refine qHr 12 rfl (fun K hK => ?_)
   try simp only [Act.put, qa, qb, qc, qD, qE, qF]
   go_simp
   refine hK.out _ _ trivial (fun hHeld => ?_)
   clear hK K
   try simp only [Act.put, qa, qb, qc, qD, qE, qF]
   refine wpAnyH_done qKr ?_ _
   clear hHeld
   go_wp2_with fail
   refine bodyPost_ret (v := v11) (by simp only [results, Try.results75]; go_simp) rfl ?_
   exact PInts.mkz (by first | exact o11.z | (rw [List.drop_eq_nil_of_le hc]; exact o11.z)) (Nat.le_refl _) (by simp <;> omega) X11
 ·
  have hci : c = i := by omega
  have hd := hv0.drop0 i (by omega) hci
  subst hci
  have g2 : (c : Int) ≤ xs.length := by omega
  have g3 : (0 : Int) ≤ c := by omega
  go_enter Try.func75, Try.ntmps75
  go_wp2_with fail
  refine wp_region_held_drew (S := fun _ => True) qKr trivial (fun hHeld => ?_)
  refine qHk (v := ?_) 1 rfl (.inl ⟨by rfl, ?_⟩) ?_
  rotate_left
  ·
   (intro w hSw; (try dsimp only at hSw); go_simp; try with_reducible rfl)
  try simp only [Act.put, qa, qb, qc, qD, qE, qF]
  refine qHk (v := ?_) 2 rfl (.inl ⟨by rfl, ?_⟩) ?_
  rotate_left
  ·
   (intro w hSw; (try dsimp only at hSw); go_simp; try with_reducible rfl)
  try simp only [Act.put, qa, qb, qc, qD, qE, qF]
  refine qHk (v := ?_) 3 rfl (.inl ⟨by rfl, ?_⟩) ?_
  rotate_left
  ·
   (intro w hSw; (try dsimp only at hSw); go_simp; try with_reducible rfl)
  try simp only [Act.put, qa, qb, qc, qD, qE, qF]
  refine qHk (v := ?_) 5 rfl (.inl ⟨by rfl, ?_⟩) ?_
  rotate_left
  ·
   (intro w hSw; (try dsimp only at hSw); go_simp; try with_reducible rfl)
  try simp only [Act.put, qa, qb, qc, qD, qE, qF]
  refine qHk (v := ?_) 8 rfl (.inl ⟨by rfl, ?_⟩) ?_
  rotate_left
  ·
   (intro w hSw; (try dsimp only at hSw); go_simp; try with_reducible rfl)
  try simp only [Act.put, qa, qb, qc, qD, qE, qF]
  refine qHk (v := ?_) 9 rfl (.inl ⟨by rfl, ?_⟩) ?_
  rotate_left
  ·
   (intro w hSw; (try dsimp only at hSw); go_simp; try with_reducible rfl)
  try simp only [Act.put, qa, qb, qc, qD, qE, qF]
  refine qHk (v := ?_) 10 rfl (.inl ⟨by rfl, ?_⟩) ?_
  rotate_left
  ·
   (intro w hSw; (try dsimp only at hSw); go_simp; try with_reducible rfl)
  try simp only [Act.put, qa, qb, qc, qD, qE, qF]
  refine wpAnyH_ready (rs := [0, 6]) qKr (by simp) ?_
  refine AllReadyH.cons rfl (fun K hK => ?_) (AllReadyH.cons rfl (fun K hK => ?_) AllReadyH.nil)
  ·
   skip
   try simp only [Act.put, qa, qb, qc, qD, qE, qF]
   go_simp
   refine hK.out _ _ trivial (fun hHeld => ?_)
   clear hK K
   try simp only [Act.put, qa, qb, qc, qD, qE, qF]
   refine wpAnyH_ready (rs := [4, 6]) qKr (by simp) ?_
   refine AllReadyH.cons rfl (fun K hK => ?_) (AllReadyH.cons rfl (fun K hK => ?_) AllReadyH.nil)
   ·
    skip
    refine step_app rfl (.tmp 7) (.tmp 10) rfl rfl rfl (OwnI.lit0 _ w.heap.size (by simp)) (by first | exact ht.ext qXo | exact Ints.nil _ w.heap.size _ _ (by omega) (by simp)) (by simp <;> omega) (by first | assumption | (simp; done) | (simp; omega) | omega) ?_
    intro v4 w4 o4 gr4 bl4 eq4
    refine hK.out _ _ trivial (fun hHeld => ?_)
    clear hK K
    try simp only [Act.put, qa, qb, qc, qD, qE, qF]
    have X4 : Ext w w4 := Ext.below (show Ext w _ from qXo) bl4 (by simp)
    have z4 : w.heap.size ≤ w4.heap.size := X4.size
    refine qHr 6 rfl (fun K hK => ?_)
    try simp only [Act.put, qa, qb, qc, qD, qE, qF]
    go_simp
    refine hK.out _ _ trivial (fun hHeld => ?_)
    clear hK K
    try simp only [Act.put, qa, qb, qc, qD, qE, qF]
    replace o4 := o4.ext (show Ext w4 (w4.alloc (.cells #[.int .i64 x] 3)) from qXo)
    refine qHr 7 rfl (fun K hK => ?_)
    refine step_app rfl (.tmp 11) (.tmp 13) rfl rfl rfl (o4) (Ints.one w4 w.heap.size x z4) (by simp <;> omega) (by first | assumption | (simp; done) | (simp; omega) | omega) ?_
    intro v7 w7 o7 gr7 bl7 eq7
    refine hK.out _ _ trivial (fun hHeld => ?_)
    clear hK K
    try simp only [Act.put, qa, qb, qc, qD, qE, qF]
    have X7 : Ext w w7 := Ext.below (X4.trans qXo) bl7 (Nat.le_refl _)
    have z7 : w.heap.size ≤ w7.heap.size := X7.size
    refine qHr 11 rfl (fun K hK => ?_)
    refine step_app rfl (.tmp 14) (.tmp 17) rfl rfl rfl (o7) (by first | exact hd.ext X7 | exact Ints.nil _ w.heap.size _ _ (by omega) (by simp)) (by simp <;> omega) (by first | assumption | (simp; done) | (simp; omega) | omega) ?_
    intro v11 w11 o11 gr11 bl11 eq11
    refine hK.out _ _ trivial (fun hHeld => ?_)
    clear hK K
    try simp only [Act.put, qa, qb, qc, qD, qE, qF]
    have X11 : Ext w w11 := Ext.below X7 bl11 (Nat.le_refl _)
    refine qHr 12 rfl (fun K hK => ?_)
    try simp only [Act.put, qa, qb, qc, qD, qE, qF]
    go_simp
    refine hK.out _ _ trivial (fun hHeld => ?_)
    clear hK K
    try simp only [Act.put, qa, qb, qc, qD, qE, qF]
    refine wpAnyH_done qKr ?_ _
    clear hHeld
    go_wp2_with fail
    refine bodyPost_ret (v := v11) (by simp only [results, Try.results75]; go_simp) rfl ?_
    exact PInts.mkz (by first | exact o11.z | (rw [List.drop_eq_nil_of_le hc]; exact o11.z)) (Nat.le_refl _) (by simp <;> omega) X11
   ·
    skip
    try simp only [Act.put, qa, qb, qc, qD, qE, qF]
    go_simp
    refine hK.out _ _ trivial (fun hHeld => ?_)
    clear hK K
    try simp only [Act.put, qa, qb, qc, qD, qE, qF]
    refine qHr 4 rfl (fun K hK => ?_)
    have l0 : OwnI ((w.drew.alloc (.cells #[] 3)).alloc (.cells #[.int .i64 x] 3)) w.heap.size (.slice (some ⟨w.heap.size, 0, none⟩) 0 0) [] := (OwnI.lit0 w.drew w.heap.size (by simp)).ext ((Ext.refl _).alloc _)
    have l1 : Ints ((w.drew.alloc (.cells #[] 3)).alloc (.cells #[.int .i64 x] 3)) w.heap.size (.slice (some ⟨w.heap.size + 1, 0, none⟩) 1 1) [x] := by simpa using Ints.one (w.drew.alloc (.cells #[] 3)) w.heap.size x (by simp)
    refine step_app rfl (.tmp 7) (.tmp 10) rfl rfl rfl (l0) (by first | exact ht.ext qXo | exact Ints.nil _ w.heap.size _ _ (by omega) (by simp)) (by simp <;> omega) (by first | assumption | (simp; done) | (simp; omega) | omega) ?_
    intro v4 w4 o4 gr4 bl4 eq4
    refine hK.out _ _ trivial (fun hHeld => ?_)
    clear hK K
    try simp only [Act.put, qa, qb, qc, qD, qE, qF]
    have X4 : Ext w w4 := Ext.below (show Ext w _ from qXo) bl4 (by simp)
    have z4 : w.heap.size ≤ w4.heap.size := X4.size
    replace l1 := l1.keepG gr4 (fun b off h _ => by cases h; show (some w.heap.size : Option Nat) ≠ some (w.heap.size + 1); simp)
    refine qHr 7 rfl (fun K hK => ?_)
    refine step_app rfl (.tmp 11) (.tmp 13) rfl rfl rfl (o4) (l1) (by simp <;> omega) (by first | assumption | (simp; done) | (simp; omega) | omega) ?_
    intro v7 w7 o7 gr7 bl7 eq7
    refine hK.out _ _ trivial (fun hHeld => ?_)
    clear hK K
    try simp only [Act.put, qa, qb, qc, qD, qE, qF]
    have X7 : Ext w w7 := Ext.below (X4) bl7 (Nat.le_refl _)
    have z7 : w.heap.size ≤ w7.heap.size := X7.size
    refine qHr 11 rfl (fun K hK => ?_)
    refine step_app rfl (.tmp 14) (.tmp 17) rfl rfl rfl (o7) (by first | exact hd.ext X7 | exact Ints.nil _ w.heap.size _ _ (by omega) (by simp)) (by simp <;> omega) (by first | assumption | (simp; done) | (simp; omega) | omega) ?_
    intro v11 w11 o11 gr11 bl11 eq11
    refine hK.out _ _ trivial (fun hHeld => ?_)
    clear hK K
    try simp only [Act.put, qa, qb, qc, qD, qE, qF]
    have X11 : Ext w w11 := Ext.below X7 bl11 (Nat.le_refl _)
    refine qHr 12 rfl (fun K hK => ?_)
    try simp only [Act.put, qa, qb, qc, qD, qE, qF]
    go_simp
    refine hK.out _ _ trivial (fun hHeld => ?_)
    clear hK K
    try simp only [Act.put, qa, qb, qc, qD, qE, qF]
    refine wpAnyH_done qKr ?_ _
    clear hHeld
    go_wp2_with fail
    refine bodyPost_ret (v := v11) (by simp only [results, Try.results75]; go_simp) rfl ?_
    exact PInts.mkz (by first | exact o11.z | (rw [List.drop_eq_nil_of_le hc]; exact o11.z)) (Nat.le_refl _) (by simp <;> omega) X11
  ·
   skip
   try simp only [Act.put, qa, qb, qc, qD, qE, qF]
   go_simp
   refine hK.out _ _ trivial (fun hHeld => ?_)
   clear hK K
   try simp only [Act.put, qa, qb, qc, qD, qE, qF]
   refine qHr 0 rfl (fun K hK => ?_)
   try simp only [Act.put, qa, qb, qc, qD, qE, qF]
   go_simp
   refine hK.out _ _ trivial (fun hHeld => ?_)
   clear hK K
   try simp only [Act.put, qa, qb, qc, qD, qE, qF]
   refine qHr 4 rfl (fun K hK => ?_)
   have l0 : OwnI ((w.drew.alloc (.cells #[.int .i64 x] 3)).alloc (.cells #[] 3)) w.heap.size (.slice (some ⟨w.heap.size + 1, 0, none⟩) 0 0) [] := by simpa using (OwnI.lit0 (w.drew.alloc (.cells #[.int .i64 x] 3)) w.heap.size (by simp))
   have l1 : Ints ((w.drew.alloc (.cells #[.int .i64 x] 3)).alloc (.cells #[] 3)) w.heap.size (.slice (some ⟨w.heap.size, 0, none⟩) 1 1) [x] := (Ints.one w.drew w.heap.size x (by simp)).ext ((Ext.refl _).alloc _)
   refine step_app rfl (.tmp 7) (.tmp 10) rfl rfl rfl (l0) (by first | exact ht.ext qXo | exact Ints.nil _ w.heap.size _ _ (by omega) (by simp)) (by simp <;> omega) (by first | assumption | (simp; done) | (simp; omega) | omega) ?_
   intro v4 w4 o4 gr4 bl4 eq4
   refine hK.out _ _ trivial (fun hHeld => ?_)
   clear hK K
   try simp only [Act.put, qa, qb, qc, qD, qE, qF]
   have X4 : Ext w w4 := Ext.below (show Ext w _ from qXo) bl4 (by simp)
   have z4 : w.heap.size ≤ w4.heap.size := X4.size
   replace l1 := l1.keepG gr4 (fun b off h _ => by cases h; show (some (w.heap.size + 1) : Option Nat) ≠ some w.heap.size; simp)
   refine qHr 7 rfl (fun K hK => ?_)
   refine step_app rfl (.tmp 11) (.tmp 13) rfl rfl rfl (o4) (l1) (by simp <;> omega) (by first | assumption | (simp; done) | (simp; omega) | omega) ?_
   intro v7 w7 o7 gr7 bl7 eq7
   refine hK.out _ _ trivial (fun hHeld => ?_)
   clear hK K
   try simp only [Act.put, qa, qb, qc, qD, qE, qF]
   have X7 : Ext w w7 := Ext.below (X4) bl7 (Nat.le_refl _)
   have z7 : w.heap.size ≤ w7.heap.size := X7.size
   refine qHr 11 rfl (fun K hK => ?_)
   refine step_app rfl (.tmp 14) (.tmp 17) rfl rfl rfl (o7) (by first | exact hd.ext X7 | exact Ints.nil _ w.heap.size _ _ (by omega) (by simp)) (by simp <;> omega) (by first | assumption | (simp; done) | (simp; omega) | omega) ?_
   intro v11 w11 o11 gr11 bl11 eq11
   refine hK.out _ _ trivial (fun hHeld => ?_)
   clear hK K
   try simp only [Act.put, qa, qb, qc, qD, qE, qF]
   have X11 : Ext w w11 := Ext.below X7 bl11 (Nat.le_refl _)
   refine qHr 12 rfl (fun K hK => ?_)
   try simp only [Act.put, qa, qb, qc, qD, qE, qF]
   go_simp
   refine hK.out _ _ trivial (fun hHeld => ?_)
   clear hK K
   try simp only [Act.put, qa, qb, qc, qD, qE, qF]
   refine wpAnyH_done qKr ?_ _
   clear hHeld
   go_wp2_with fail
   refine bodyPost_ret (v := v11) (by simp only [results, Try.results75]; go_simp) rfl ?_
   exact PInts.mkz (by first | exact o11.z | (rw [List.drop_eq_nil_of_le hc]; exact o11.z)) (Nat.le_refl _) (by simp <;> omega) X11
 ·
  subst hne
  obtain rfl : i = 0 := by simpa using hi
  rcases a with _ | A
  ·
   obtain rfl : c = 0 := hb2.2 rfl
   have hd := hv0
   simp only [List.length_nil, Int.ofNat_zero, Int.natCast_zero, List.take_nil, List.drop_nil] at *
   go_enter Try.func75, Try.ntmps75
   go_wp2_with fail
   refine wp_region_held_drew (S := fun _ => True) qKr trivial (fun hHeld => ?_)
   refine qHk (v := ?_) 1 rfl (.inl ⟨by rfl, ?_⟩) ?_
   rotate_left
   ·
    (intro w hSw; (try dsimp only at hSw); go_simp; try with_reducible rfl)
   try simp only [Act.put, qa, qb, qc, qD, qE, qF]
   refine qHk (v := ?_) 2 rfl (.inl ⟨by rfl, ?_⟩) ?_
   rotate_left
   ·
    (intro w hSw; (try dsimp only at hSw); go_simp; try with_reducible rfl)
   try simp only [Act.put, qa, qb, qc, qD, qE, qF]
   refine qHk (v := ?_) 3 rfl (.inl ⟨by rfl, ?_⟩) ?_
   rotate_left
   ·
    (intro w hSw; (try dsimp only at hSw); go_simp; try with_reducible rfl)
   try simp only [Act.put, qa, qb, qc, qD, qE, qF]
   refine qHk (v := ?_) 5 rfl (.inl ⟨by rfl, ?_⟩) ?_
   rotate_left
   ·
    (intro w hSw; (try dsimp only at hSw); go_simp; try with_reducible rfl)
   try simp only [Act.put, qa, qb, qc, qD, qE, qF]
   refine qHk (v := ?_) 8 rfl (.inl ⟨by rfl, ?_⟩) ?_
   rotate_left
   ·
    (intro w hSw; (try dsimp only at hSw); go_simp; try with_reducible rfl)
   try simp only [Act.put, qa, qb, qc, qD, qE, qF]
   refine qHk (v := ?_) 9 rfl (.inl ⟨by rfl, ?_⟩) ?_
   rotate_left
   ·
    (intro w hSw; (try dsimp only at hSw); go_simp; try with_reducible rfl)
   try simp only [Act.put, qa, qb, qc, qD, qE, qF]
   refine qHk (v := ?_) 10 rfl (.inl ⟨by rfl, ?_⟩) ?_
   rotate_left
   ·
    (intro w hSw; (try dsimp only at hSw); go_simp; try with_reducible rfl)
   try simp only [Act.put, qa, qb, qc, qD, qE, qF]
   refine wpAnyH_ready (rs := [0, 6]) qKr (by simp) ?_
   refine AllReadyH.cons rfl (fun K hK => ?_) (AllReadyH.cons rfl (fun K hK => ?_) AllReadyH.nil)
   ·
    skip
    try simp only [Act.put, qa, qb, qc, qD, qE, qF]
    go_simp
    refine hK.out _ _ trivial (fun hHeld => ?_)
    clear hK K
    try simp only [Act.put, qa, qb, qc, qD, qE, qF]
    refine wpAnyH_ready (rs := [4, 6]) qKr (by simp) ?_
    refine AllReadyH.cons rfl (fun K hK => ?_) (AllReadyH.cons rfl (fun K hK => ?_) AllReadyH.nil)
    ·
     skip
     refine step_app rfl (.tmp 7) (.tmp 10) rfl rfl rfl (OwnI.lit0 _ w.heap.size (by simp)) (by first | exact ht.ext qXo | exact Ints.nil _ w.heap.size _ _ (by omega) (by simp)) (by simp <;> omega) (by first | assumption | (simp; done) | (simp; omega) | omega) ?_
     intro v4 w4 o4 gr4 bl4 eq4
     refine hK.out _ _ trivial (fun hHeld => ?_)
     clear hK K
     try simp only [Act.put, qa, qb, qc, qD, qE, qF]
     have X4 : Ext w w4 := Ext.below (show Ext w _ from qXo) bl4 (by simp)
     have z4 : w.heap.size ≤ w4.heap.size := X4.size
     refine qHr 6 rfl (fun K hK => ?_)
     try simp only [Act.put, qa, qb, qc, qD, qE, qF]
     go_simp
     refine hK.out _ _ trivial (fun hHeld => ?_)
     clear hK K
     try simp only [Act.put, qa, qb, qc, qD, qE, qF]
     replace o4 := o4.ext (show Ext w4 (w4.alloc (.cells #[.int .i64 x] 3)) from qXo)
     refine qHr 7 rfl (fun K hK => ?_)
     refine step_app rfl (.tmp 11) (.tmp 13) rfl rfl rfl (o4) (Ints.one w4 w.heap.size x z4) (by simp <;> omega) (by first | assumption | (simp; done) | (simp; omega) | omega) ?_
     intro v7 w7 o7 gr7 bl7 eq7
     refine hK.out _ _ trivial (fun hHeld => ?_)
     clear hK K
     try simp only [Act.put, qa, qb, qc, qD, qE, qF]
     have X7 : Ext w w7 := Ext.below (X4.trans qXo) bl7 (Nat.le_refl _)
     have z7 : w.heap.size ≤ w7.heap.size := X7.size
     refine qHr 11 rfl (fun K hK => ?_)
     refine step_app rfl (.tmp 14) (.tmp 17) rfl rfl rfl (o7) (by first | exact hd.ext X7 | exact Ints.nil _ w.heap.size _ _ (by omega) (by simp)) (by simp <;> omega) (by first | assumption | (simp; done) | (simp; omega) | omega) ?_
     intro v11 w11 o11 gr11 bl11 eq11
     refine hK.out _ _ trivial (fun hHeld => ?_)
     clear hK K
     try simp only [Act.put, qa, qb, qc, qD, qE, qF]
     have X11 : Ext w w11 := Ext.below X7 bl11 (Nat.le_refl _)
     refine qHr 12 rfl (fun K hK => ?_)
     try simp only [Act.put, qa, qb, qc, qD, qE, qF]
     go_simp
     refine hK.out _ _ trivial (fun hHeld => ?_)
     clear hK K
     try simp only [Act.put, qa, qb, qc, qD, qE, qF]
     refine wpAnyH_done qKr ?_ _
     clear hHeld
     go_wp2_with fail
     refine bodyPost_ret (v := v11) (by simp only [results, Try.results75]; go_simp) rfl ?_
     exact PInts.mkz (by first | exact o11.z | (rw [List.drop_eq_nil_of_le hc]; exact o11.z)) (Nat.le_refl _) (by simp <;> omega) X11
    ·
     skip
     try simp only [Act.put, qa, qb, qc, qD, qE, qF]
     go_simp
     refine hK.out _ _ trivial (fun hHeld => ?_)
     clear hK K
     try simp only [Act.put, qa, qb, qc, qD, qE, qF]
     refine qHr 4 rfl (fun K hK => ?_)
     have l0 : OwnI ((w.drew.alloc (.cells #[] 3)).alloc (.cells #[.int .i64 x] 3)) w.heap.size (.slice (some ⟨w.heap.size, 0, none⟩) 0 0) [] := (OwnI.lit0 w.drew w.heap.size (by simp)).ext ((Ext.refl _).alloc _)
     have l1 : Ints ((w.drew.alloc (.cells #[] 3)).alloc (.cells #[.int .i64 x] 3)) w.heap.size (.slice (some ⟨w.heap.size + 1, 0, none⟩) 1 1) [x] := by simpa using Ints.one (w.drew.alloc (.cells #[] 3)) w.heap.size x (by simp)
     refine step_app rfl (.tmp 7) (.tmp 10) rfl rfl rfl (l0) (by first | exact ht.ext qXo | exact Ints.nil _ w.heap.size _ _ (by omega) (by simp)) (by simp <;> omega) (by first | assumption | (simp; done) | (simp; omega) | omega) ?_
     intro v4 w4 o4 gr4 bl4 eq4
     refine hK.out _ _ trivial (fun hHeld => ?_)
     clear hK K
     try simp only [Act.put, qa, qb, qc, qD, qE, qF]
     have X4 : Ext w w4 := Ext.below (show Ext w _ from qXo) bl4 (by simp)
     have z4 : w.heap.size ≤ w4.heap.size := X4.size
     replace l1 := l1.keepG gr4 (fun b off h _ => by cases h; show (some w.heap.size : Option Nat) ≠ some (w.heap.size + 1); simp)
     refine qHr 7 rfl (fun K hK => ?_)
     refine step_app rfl (.tmp 11) (.tmp 13) rfl rfl rfl (o4) (l1) (by simp <;> omega) (by first | assumption | (simp; done) | (simp; omega) | omega) ?_
     intro v7 w7 o7 gr7 bl7 eq7
     refine hK.out _ _ trivial (fun hHeld => ?_)
     clear hK K
     try simp only [Act.put, qa, qb, qc, qD, qE, qF]
     have X7 : Ext w w7 := Ext.below (X4) bl7 (Nat.le_refl _)
     have z7 : w.heap.size ≤ w7.heap.size := X7.size
     refine qHr 11 rfl (fun K hK => ?_)
     refine step_app rfl (.tmp 14) (.tmp 17) rfl rfl rfl (o7) (by first | exact hd.ext X7 | exact Ints.nil _ w.heap.size _ _ (by omega) (by simp)) (by simp <;> omega) (by first | assumption | (simp; done) | (simp; omega) | omega) ?_
     intro v11 w11 o11 gr11 bl11 eq11
     refine hK.out _ _ trivial (fun hHeld => ?_)
     clear hK K
     try simp only [Act.put, qa, qb, qc, qD, qE, qF]
     have X11 : Ext w w11 := Ext.below X7 bl11 (Nat.le_refl _)
     refine qHr 12 rfl (fun K hK => ?_)
     try simp only [Act.put, qa, qb, qc, qD, qE, qF]
     go_simp
     refine hK.out _ _ trivial (fun hHeld => ?_)
     clear hK K
     try simp only [Act.put, qa, qb, qc, qD, qE, qF]
     refine wpAnyH_done qKr ?_ _
     clear hHeld
     go_wp2_with fail
     refine bodyPost_ret (v := v11) (by simp only [results, Try.results75]; go_simp) rfl ?_
     exact PInts.mkz (by first | exact o11.z | (rw [List.drop_eq_nil_of_le hc]; exact o11.z)) (Nat.le_refl _) (by simp <;> omega) X11
   ·
    skip
    try simp only [Act.put, qa, qb, qc, qD, qE, qF]
    go_simp
    refine hK.out _ _ trivial (fun hHeld => ?_)
    clear hK K
    try simp only [Act.put, qa, qb, qc, qD, qE, qF]
    refine qHr 0 rfl (fun K hK => ?_)
    try simp only [Act.put, qa, qb, qc, qD, qE, qF]
    go_simp
    refine hK.out _ _ trivial (fun hHeld => ?_)
    clear hK K
    try simp only [Act.put, qa, qb, qc, qD, qE, qF]
    refine qHr 4 rfl (fun K hK => ?_)
    have l0 : OwnI ((w.drew.alloc (.cells #[.int .i64 x] 3)).alloc (.cells #[] 3)) w.heap.size (.slice (some ⟨w.heap.size + 1, 0, none⟩) 0 0) [] := by simpa using (OwnI.lit0 (w.drew.alloc (.cells #[.int .i64 x] 3)) w.heap.size (by simp))
    have l1 : Ints ((w.drew.alloc (.cells #[.int .i64 x] 3)).alloc (.cells #[] 3)) w.heap.size (.slice (some ⟨w.heap.size, 0, none⟩) 1 1) [x] := (Ints.one w.drew w.heap.size x (by simp)).ext ((Ext.refl _).alloc _)
    refine step_app rfl (.tmp 7) (.tmp 10) rfl rfl rfl (l0) (by first | exact ht.ext qXo | exact Ints.nil _ w.heap.size _ _ (by omega) (by simp)) (by simp <;> omega) (by first | assumption | (simp; done) | (simp; omega) | omega) ?_
    intro v4 w4 o4 gr4 bl4 eq4
    refine hK.out _ _ trivial (fun hHeld => ?_)
    clear hK K
    try simp only [Act.put, qa, qb, qc, qD, qE, qF]
    have X4 : Ext w w4 := Ext.below (show Ext w _ from qXo) bl4 (by simp)
    have z4 : w.heap.size ≤ w4.heap.size := X4.size
    replace l1 := l1.keepG gr4 (fun b off h _ => by cases h; show (some (w.heap.size + 1) : Option Nat) ≠ some w.heap.size; simp)
    refine qHr 7 rfl (fun K hK => ?_)
    refine step_app rfl (.tmp 11) (.tmp 13) rfl rfl rfl (o4) (l1) (by simp <;> omega) (by first | assumption | (simp; done) | (simp; omega) | omega) ?_
    intro v7 w7 o7 gr7 bl7 eq7
    refine hK.out _ _ trivial (fun hHeld => ?_)
    clear hK K
    try simp only [Act.put, qa, qb, qc, qD, qE, qF]
    have X7 : Ext w w7 := Ext.below (X4) bl7 (Nat.le_refl _)
    have z7 : w.heap.size ≤ w7.heap.size := X7.size
    refine qHr 11 rfl (fun K hK => ?_)
    refine step_app rfl (.tmp 14) (.tmp 17) rfl rfl rfl (o7) (by first | exact hd.ext X7 | exact Ints.nil _ w.heap.size _ _ (by omega) (by simp)) (by simp <;> omega) (by first | assumption | (simp; done) | (simp; omega) | omega) ?_
    intro v11 w11 o11 gr11 bl11 eq11
    refine hK.out _ _ trivial (fun hHeld => ?_)
    clear hK K
    try simp only [Act.put, qa, qb, qc, qD, qE, qF]
    have X11 : Ext w w11 := Ext.below X7 bl11 (Nat.le_refl _)
    refine qHr 12 rfl (fun K hK => ?_)
    try simp only [Act.put, qa, qb, qc, qD, qE, qF]
    go_simp
    refine hK.out _ _ trivial (fun hHeld => ?_)
    clear hK K
    try simp only [Act.put, qa, qb, qc, qD, qE, qF]
    refine wpAnyH_done qKr ?_ _
    clear hHeld
    go_wp2_with fail
    refine bodyPost_ret (v := v11) (by simp only [results, Try.results75]; go_simp) rfl ?_
    exact PInts.mkz (by first | exact o11.z | (rw [List.drop_eq_nil_of_le hc]; exact o11.z)) (Nat.le_refl _) (by simp <;> omega) X11
  ·
   by_cases hc0 : c = 0
   ·
    subst hc0
    have hd := hv0
    simp only [List.length_nil, Int.ofNat_zero, Int.natCast_zero, List.take_nil, List.drop_nil] at *
    go_enter Try.func75, Try.ntmps75
    go_wp2_with fail
    refine wp_region_held_drew (S := fun _ => True) qKr trivial (fun hHeld => ?_)
    refine qHk (v := ?_) 1 rfl (.inl ⟨by rfl, ?_⟩) ?_
    rotate_left
    ·
     (intro w hSw; (try dsimp only at hSw); go_simp; try with_reducible rfl)
    try simp only [Act.put, qa, qb, qc, qD, qE, qF]
    refine qHk (v := ?_) 2 rfl (.inl ⟨by rfl, ?_⟩) ?_
    rotate_left
    ·
     (intro w hSw; (try dsimp only at hSw); go_simp; try with_reducible rfl)
    try simp only [Act.put, qa, qb, qc, qD, qE, qF]
    refine qHk (v := ?_) 3 rfl (.inl ⟨by rfl, ?_⟩) ?_
    rotate_left
    ·
     (intro w hSw; (try dsimp only at hSw); go_simp; try with_reducible rfl)
    try simp only [Act.put, qa, qb, qc, qD, qE, qF]
    refine qHk (v := ?_) 5 rfl (.inl ⟨by rfl, ?_⟩) ?_
    rotate_left
    ·
     (intro w hSw; (try dsimp only at hSw); go_simp; try with_reducible rfl)
    try simp only [Act.put, qa, qb, qc, qD, qE, qF]
    refine qHk (v := ?_) 8 rfl (.inl ⟨by rfl, ?_⟩) ?_
    rotate_left
    ·
     (intro w hSw; (try dsimp only at hSw); go_simp; try with_reducible rfl)
    try simp only [Act.put, qa, qb, qc, qD, qE, qF]
    refine qHk (v := ?_) 9 rfl (.inl ⟨by rfl, ?_⟩) ?_
    rotate_left
    ·
     (intro w hSw; (try dsimp only at hSw); go_simp; try with_reducible rfl)
    try simp only [Act.put, qa, qb, qc, qD, qE, qF]
    refine qHk (v := ?_) 10 rfl (.inl ⟨by rfl, ?_⟩) ?_
    rotate_left
    ·
     (intro w hSw; (try dsimp only at hSw); go_simp; try with_reducible rfl)
    try simp only [Act.put, qa, qb, qc, qD, qE, qF]
    refine wpAnyH_ready (rs := [0, 6]) qKr (by simp) ?_
    refine AllReadyH.cons rfl (fun K hK => ?_) (AllReadyH.cons rfl (fun K hK => ?_) AllReadyH.nil)
    ·
     skip
     try simp only [Act.put, qa, qb, qc, qD, qE, qF]
     go_simp
     refine hK.out _ _ trivial (fun hHeld => ?_)
     clear hK K
     try simp only [Act.put, qa, qb, qc, qD, qE, qF]
     refine wpAnyH_ready (rs := [4, 6]) qKr (by simp) ?_
     refine AllReadyH.cons rfl (fun K hK => ?_) (AllReadyH.cons rfl (fun K hK => ?_) AllReadyH.nil)
     ·
      skip
      refine step_app rfl (.tmp 7) (.tmp 10) rfl rfl rfl (OwnI.lit0 _ w.heap.size (by simp)) (by first | exact ht.ext qXo | exact Ints.nil _ w.heap.size _ _ (by omega) (by simp)) (by simp <;> omega) (by first | assumption | (simp; done) | (simp; omega) | omega) ?_
      intro v4 w4 o4 gr4 bl4 eq4
      refine hK.out _ _ trivial (fun hHeld => ?_)
      clear hK K
      try simp only [Act.put, qa, qb, qc, qD, qE, qF]
      have X4 : Ext w w4 := Ext.below (show Ext w _ from qXo) bl4 (by simp)
      have z4 : w.heap.size ≤ w4.heap.size := X4.size
      refine qHr 6 rfl (fun K hK => ?_)
      try simp only [Act.put, qa, qb, qc, qD, qE, qF]
      go_simp
      refine hK.out _ _ trivial (fun hHeld => ?_)
      clear hK K
      try simp only [Act.put, qa, qb, qc, qD, qE, qF]
      replace o4 := o4.ext (show Ext w4 (w4.alloc (.cells #[.int .i64 x] 3)) from qXo)
      refine qHr 7 rfl (fun K hK => ?_)
      refine step_app rfl (.tmp 11) (.tmp 13) rfl rfl rfl (o4) (Ints.one w4 w.heap.size x z4) (by simp <;> omega) (by first | assumption | (simp; done) | (simp; omega) | omega) ?_
      intro v7 w7 o7 gr7 bl7 eq7
      refine hK.out _ _ trivial (fun hHeld => ?_)
      clear hK K
      try simp only [Act.put, qa, qb, qc, qD, qE, qF]
      have X7 : Ext w w7 := Ext.below (X4.trans qXo) bl7 (Nat.le_refl _)
      have z7 : w.heap.size ≤ w7.heap.size := X7.size
      refine qHr 11 rfl (fun K hK => ?_)
      refine step_app rfl (.tmp 14) (.tmp 17) rfl rfl rfl (o7) (by first | exact hd.ext X7 | exact Ints.nil _ w.heap.size _ _ (by omega) (by simp)) (by simp <;> omega) (by first | assumption | (simp; done) | (simp; omega) | omega) ?_
      intro v11 w11 o11 gr11 bl11 eq11
      refine hK.out _ _ trivial (fun hHeld => ?_)
      clear hK K
      try simp only [Act.put, qa, qb, qc, qD, qE, qF]
      have X11 : Ext w w11 := Ext.below X7 bl11 (Nat.le_refl _)
      refine qHr 12 rfl (fun K hK => ?_)
      try simp only [Act.put, qa, qb, qc, qD, qE, qF]
      go_simp
      refine hK.out _ _ trivial (fun hHeld => ?_)
      clear hK K
      try simp only [Act.put, qa, qb, qc, qD, qE, qF]
      refine wpAnyH_done qKr ?_ _
      clear hHeld
      go_wp2_with fail
      refine bodyPost_ret (v := v11) (by simp only [results, Try.results75]; go_simp) rfl ?_
      exact PInts.mkz (by first | exact o11.z | (rw [List.drop_eq_nil_of_le hc]; exact o11.z)) (Nat.le_refl _) (by simp <;> omega) X11
     ·
      skip
      try simp only [Act.put, qa, qb, qc, qD, qE, qF]
      go_simp
      refine hK.out _ _ trivial (fun hHeld => ?_)
      clear hK K
      try simp only [Act.put, qa, qb, qc, qD, qE, qF]
      refine qHr 4 rfl (fun K hK => ?_)
      have l0 : OwnI ((w.drew.alloc (.cells #[] 3)).alloc (.cells #[.int .i64 x] 3)) w.heap.size (.slice (some ⟨w.heap.size, 0, none⟩) 0 0) [] := (OwnI.lit0 w.drew w.heap.size (by simp)).ext ((Ext.refl _).alloc _)
      have l1 : Ints ((w.drew.alloc (.cells #[] 3)).alloc (.cells #[.int .i64 x] 3)) w.heap.size (.slice (some ⟨w.heap.size + 1, 0, none⟩) 1 1) [x] := by simpa using Ints.one (w.drew.alloc (.cells #[] 3)) w.heap.size x (by simp)
      refine step_app rfl (.tmp 7) (.tmp 10) rfl rfl rfl (l0) (by first | exact ht.ext qXo | exact Ints.nil _ w.heap.size _ _ (by omega) (by simp)) (by simp <;> omega) (by first | assumption | (simp; done) | (simp; omega) | omega) ?_
      intro v4 w4 o4 gr4 bl4 eq4
      refine hK.out _ _ trivial (fun hHeld => ?_)
      clear hK K
      try simp only [Act.put, qa, qb, qc, qD, qE, qF]
      have X4 : Ext w w4 := Ext.below (show Ext w _ from qXo) bl4 (by simp)
      have z4 : w.heap.size ≤ w4.heap.size := X4.size
      replace l1 := l1.keepG gr4 (fun b off h _ => by cases h; show (some w.heap.size : Option Nat) ≠ some (w.heap.size + 1); simp)
      refine qHr 7 rfl (fun K hK => ?_)
      refine step_app rfl (.tmp 11) (.tmp 13) rfl rfl rfl (o4) (l1) (by simp <;> omega) (by first | assumption | (simp; done) | (simp; omega) | omega) ?_
      intro v7 w7 o7 gr7 bl7 eq7
      refine hK.out _ _ trivial (fun hHeld => ?_)
      clear hK K
      try simp only [Act.put, qa, qb, qc, qD, qE, qF]
      have X7 : Ext w w7 := Ext.below (X4) bl7 (Nat.le_refl _)
      have z7 : w.heap.size ≤ w7.heap.size := X7.size
      refine qHr 11 rfl (fun K hK => ?_)
      refine step_app rfl (.tmp 14) (.tmp 17) rfl rfl rfl (o7) (by first | exact hd.ext X7 | exact Ints.nil _ w.heap.size _ _ (by omega) (by simp)) (by simp <;> omega) (by first | assumption | (simp; done) | (simp; omega) | omega) ?_
      intro v11 w11 o11 gr11 bl11 eq11
      refine hK.out _ _ trivial (fun hHeld => ?_)
      clear hK K
      try simp only [Act.put, qa, qb, qc, qD, qE, qF]
      have X11 : Ext w w11 := Ext.below X7 bl11 (Nat.le_refl _)
      refine qHr 12 rfl (fun K hK => ?_)
      try simp only [Act.put, qa, qb, qc, qD, qE, qF]
      go_simp
      refine hK.out _ _ trivial (fun hHeld => ?_)
      clear hK K
      try simp only [Act.put, qa, qb, qc, qD, qE, qF]
      refine wpAnyH_done qKr ?_ _
      clear hHeld
      go_wp2_with fail
      refine bodyPost_ret (v := v11) (by simp only [results, Try.results75]; go_simp) rfl ?_
      exact PInts.mkz (by first | exact o11.z | (rw [List.drop_eq_nil_of_le hc]; exact o11.z)) (Nat.le_refl _) (by simp <;> omega) X11
    ·
     skip
     try simp only [Act.put, qa, qb, qc, qD, qE, qF]
     go_simp
     refine hK.out _ _ trivial (fun hHeld => ?_)
     clear hK K
     try simp only [Act.put, qa, qb, qc, qD, qE, qF]
     refine qHr 0 rfl (fun K hK => ?_)
     try simp only [Act.put, qa, qb, qc, qD, qE, qF]
     go_simp
     refine hK.out _ _ trivial (fun hHeld => ?_)
     clear hK K
     try simp only [Act.put, qa, qb, qc, qD, qE, qF]
     refine qHr 4 rfl (fun K hK => ?_)
     have l0 : OwnI ((w.drew.alloc (.cells #[.int .i64 x] 3)).alloc (.cells #[] 3)) w.heap.size (.slice (some ⟨w.heap.size + 1, 0, none⟩) 0 0) [] := by simpa using (OwnI.lit0 (w.drew.alloc (.cells #[.int .i64 x] 3)) w.heap.size (by simp))
     have l1 : Ints ((w.drew.alloc (.cells #[.int .i64 x] 3)).alloc (.cells #[] 3)) w.heap.size (.slice (some ⟨w.heap.size, 0, none⟩) 1 1) [x] := (Ints.one w.drew w.heap.size x (by simp)).ext ((Ext.refl _).alloc _)
     refine step_app rfl (.tmp 7) (.tmp 10) rfl rfl rfl (l0) (by first | exact ht.ext qXo | exact Ints.nil _ w.heap.size _ _ (by omega) (by simp)) (by simp <;> omega) (by first | assumption | (simp; done) | (simp; omega) | omega) ?_
     intro v4 w4 o4 gr4 bl4 eq4
     refine hK.out _ _ trivial (fun hHeld => ?_)
     clear hK K
     try simp only [Act.put, qa, qb, qc, qD, qE, qF]
     have X4 : Ext w w4 := Ext.below (show Ext w _ from qXo) bl4 (by simp)
     have z4 : w.heap.size ≤ w4.heap.size := X4.size
     replace l1 := l1.keepG gr4 (fun b off h _ => by cases h; show (some (w.heap.size + 1) : Option Nat) ≠ some w.heap.size; simp)
     refine qHr 7 rfl (fun K hK => ?_)
     refine step_app rfl (.tmp 11) (.tmp 13) rfl rfl rfl (o4) (l1) (by simp <;> omega) (by first | assumption | (simp; done) | (simp; omega) | omega) ?_
     intro v7 w7 o7 gr7 bl7 eq7
     refine hK.out _ _ trivial (fun hHeld => ?_)
     clear hK K
     try simp only [Act.put, qa, qb, qc, qD, qE, qF]
     have X7 : Ext w w7 := Ext.below (X4) bl7 (Nat.le_refl _)
     have z7 : w.heap.size ≤ w7.heap.size := X7.size
     refine qHr 11 rfl (fun K hK => ?_)
     refine step_app rfl (.tmp 14) (.tmp 17) rfl rfl rfl (o7) (by first | exact hd.ext X7 | exact Ints.nil _ w.heap.size _ _ (by omega) (by simp)) (by simp <;> omega) (by first | assumption | (simp; done) | (simp; omega) | omega) ?_
     intro v11 w11 o11 gr11 bl11 eq11
     refine hK.out _ _ trivial (fun hHeld => ?_)
     clear hK K
     try simp only [Act.put, qa, qb, qc, qD, qE, qF]
     have X11 : Ext w w11 := Ext.below X7 bl11 (Nat.le_refl _)
     refine qHr 12 rfl (fun K hK => ?_)
     try simp only [Act.put, qa, qb, qc, qD, qE, qF]
     go_simp
     refine hK.out _ _ trivial (fun hHeld => ?_)
     clear hK K
     try simp only [Act.put, qa, qb, qc, qD, qE, qF]
     refine wpAnyH_done qKr ?_ _
     clear hHeld
     go_wp2_with fail
     refine bodyPost_ret (v := v11) (by simp only [results, Try.results75]; go_simp) rfl ?_
     exact PInts.mkz (by first | exact o11.z | (rw [List.drop_eq_nil_of_le hc]; exact o11.z)) (Nat.le_refl _) (by simp <;> omega) X11
   ·
    have hd := hv0
    simp only [List.length_nil, Int.ofNat_zero, Int.natCast_zero, List.take_nil, List.drop_nil] at *
    go_enter Try.func75, Try.ntmps75
    go_wp2_with fail
    refine wp_region_held_drew (S := fun _ => True) qKr trivial (fun hHeld => ?_)
    refine qHk (v := ?_) 1 rfl (.inl ⟨by rfl, ?_⟩) ?_
    rotate_left
    ·
     (intro w hSw; (try dsimp only at hSw); go_simp; try with_reducible rfl)
    try simp only [Act.put, qa, qb, qc, qD, qE, qF]
    refine qHk (v := ?_) 2 rfl (.inl ⟨by rfl, ?_⟩) ?_
    rotate_left
    ·
     (intro w hSw; (try dsimp only at hSw); go_simp; try with_reducible rfl)
    try simp only [Act.put, qa, qb, qc, qD, qE, qF]
    refine qHk (v := ?_) 3 rfl (.inl ⟨by rfl, ?_⟩) ?_
    rotate_left
    ·
     (intro w hSw; (try dsimp only at hSw); go_simp; try with_reducible rfl)
    try simp only [Act.put, qa, qb, qc, qD, qE, qF]
    refine qHk (v := ?_) 5 rfl (.inl ⟨by rfl, ?_⟩) ?_
    rotate_left
    ·
     (intro w hSw; (try dsimp only at hSw); go_simp; try with_reducible rfl)
    try simp only [Act.put, qa, qb, qc, qD, qE, qF]
    refine qHk (v := ?_) 8 rfl (.inl ⟨by rfl, ?_⟩) ?_
    rotate_left
    ·
     (intro w hSw; (try dsimp only at hSw); go_simp; try with_reducible rfl)
    try simp only [Act.put, qa, qb, qc, qD, qE, qF]
    refine qHk (v := ?_) 9 rfl (.inl ⟨by rfl, ?_⟩) ?_
    rotate_left
    ·
     (intro w hSw; (try dsimp only at hSw); go_simp; try with_reducible rfl)
    try simp only [Act.put, qa, qb, qc, qD, qE, qF]
    refine qHk (v := ?_) 10 rfl (.inl ⟨by rfl, ?_⟩) ?_
    rotate_left
    ·
     (intro w hSw; (try dsimp only at hSw); go_simp; try with_reducible rfl)
    try simp only [Act.put, qa, qb, qc, qD, qE, qF]
    refine wpAnyH_ready (rs := [0, 6]) qKr (by simp) ?_
    refine AllReadyH.cons rfl (fun K hK => ?_) (AllReadyH.cons rfl (fun K hK => ?_) AllReadyH.nil)
    ·
     skip
     try simp only [Act.put, qa, qb, qc, qD, qE, qF]
     go_simp
     refine hK.out _ _ trivial (fun hHeld => ?_)
     clear hK K
     try simp only [Act.put, qa, qb, qc, qD, qE, qF]
     refine wpAnyH_ready (rs := [4, 6]) qKr (by simp) ?_
     refine AllReadyH.cons rfl (fun K hK => ?_) (AllReadyH.cons rfl (fun K hK => ?_) AllReadyH.nil)
     ·
      skip
      refine step_app rfl (.tmp 7) (.tmp 10) rfl rfl rfl (OwnI.lit0 _ w.heap.size (by simp)) (by first | exact ht.ext qXo | exact Ints.nil _ w.heap.size _ _ (by omega) (by simp)) (by simp <;> omega) (by first | assumption | (simp; done) | (simp; omega) | omega) ?_
      intro v4 w4 o4 gr4 bl4 eq4
      refine hK.out _ _ trivial (fun hHeld => ?_)
      clear hK K
      try simp only [Act.put, qa, qb, qc, qD, qE, qF]
      have X4 : Ext w w4 := Ext.below (show Ext w _ from qXo) bl4 (by simp)
      have z4 : w.heap.size ≤ w4.heap.size := X4.size
      refine qHr 6 rfl (fun K hK => ?_)
      try simp only [Act.put, qa, qb, qc, qD, qE, qF]
      go_simp
      refine hK.out _ _ trivial (fun hHeld => ?_)
      clear hK K
      try simp only [Act.put, qa, qb, qc, qD, qE, qF]
      replace o4 := o4.ext (show Ext w4 (w4.alloc (.cells #[.int .i64 x] 3)) from qXo)
      refine qHr 7 rfl (fun K hK => ?_)
      refine step_app rfl (.tmp 11) (.tmp 13) rfl rfl rfl (o4) (Ints.one w4 w.heap.size x z4) (by simp <;> omega) (by first | assumption | (simp; done) | (simp; omega) | omega) ?_
      intro v7 w7 o7 gr7 bl7 eq7
      refine hK.out _ _ trivial (fun hHeld => ?_)
      clear hK K
      try simp only [Act.put, qa, qb, qc, qD, qE, qF]
      have X7 : Ext w w7 := Ext.below (X4.trans qXo) bl7 (Nat.le_refl _)
      have z7 : w.heap.size ≤ w7.heap.size := X7.size
      refine qHr 11 rfl (fun K hK => ?_)
      refine step_app rfl (.tmp 14) (.tmp 17) rfl rfl rfl (o7) (by first | exact hd.ext X7 | exact Ints.nil _ w.heap.size _ _ (by omega) (by simp)) (by simp <;> omega) (by first | assumption | (simp; done) | (simp; omega) | omega) ?_
      intro v11 w11 o11 gr11 bl11 eq11
      refine hK.out _ _ trivial (fun hHeld => ?_)
      clear hK K
      try simp only [Act.put, qa, qb, qc, qD, qE, qF]
      have X11 : Ext w w11 := Ext.below X7 bl11 (Nat.le_refl _)
      refine qHr 12 rfl (fun K hK => ?_)
      try simp only [Act.put, qa, qb, qc, qD, qE, qF]
      go_simp
      refine hK.out _ _ trivial (fun hHeld => ?_)
      clear hK K
      try simp only [Act.put, qa, qb, qc, qD, qE, qF]
      refine wpAnyH_done qKr ?_ _
      clear hHeld
      go_wp2_with fail
      refine bodyPost_ret (v := v11) (by simp only [results, Try.results75]; go_simp) rfl ?_
      exact PInts.mkz (by first | exact o11.z | (rw [List.drop_eq_nil_of_le hc]; exact o11.z)) (Nat.le_refl _) (by simp <;> omega) X11
     ·
      skip
      try simp only [Act.put, qa, qb, qc, qD, qE, qF]
      go_simp
      refine hK.out _ _ trivial (fun hHeld => ?_)
      clear hK K
      try simp only [Act.put, qa, qb, qc, qD, qE, qF]
      refine qHr 4 rfl (fun K hK => ?_)
      have l0 : OwnI ((w.drew.alloc (.cells #[] 3)).alloc (.cells #[.int .i64 x] 3)) w.heap.size (.slice (some ⟨w.heap.size, 0, none⟩) 0 0) [] := (OwnI.lit0 w.drew w.heap.size (by simp)).ext ((Ext.refl _).alloc _)
      have l1 : Ints ((w.drew.alloc (.cells #[] 3)).alloc (.cells #[.int .i64 x] 3)) w.heap.size (.slice (some ⟨w.heap.size + 1, 0, none⟩) 1 1) [x] := by simpa using Ints.one (w.drew.alloc (.cells #[] 3)) w.heap.size x (by simp)
      refine step_app rfl (.tmp 7) (.tmp 10) rfl rfl rfl (l0) (by first | exact ht.ext qXo | exact Ints.nil _ w.heap.size _ _ (by omega) (by simp)) (by simp <;> omega) (by first | assumption | (simp; done) | (simp; omega) | omega) ?_
      intro v4 w4 o4 gr4 bl4 eq4
      refine hK.out _ _ trivial (fun hHeld => ?_)
      clear hK K
      try simp only [Act.put, qa, qb, qc, qD, qE, qF]
      have X4 : Ext w w4 := Ext.below (show Ext w _ from qXo) bl4 (by simp)
      have z4 : w.heap.size ≤ w4.heap.size := X4.size
      replace l1 := l1.keepG gr4 (fun b off h _ => by cases h; show (some w.heap.size : Option Nat) ≠ some (w.heap.size + 1); simp)
      refine qHr 7 rfl (fun K hK => ?_)
      refine step_app rfl (.tmp 11) (.tmp 13) rfl rfl rfl (o4) (l1) (by simp <;> omega) (by first | assumption | (simp; done) | (simp; omega) | omega) ?_
      intro v7 w7 o7 gr7 bl7 eq7
      refine hK.out _ _ trivial (fun hHeld => ?_)
      clear hK K
      try simp only [Act.put, qa, qb, qc, qD, qE, qF]
      have X7 : Ext w w7 := Ext.below (X4) bl7 (Nat.le_refl _)
      have z7 : w.heap.size ≤ w7.heap.size := X7.size
      refine qHr 11 rfl (fun K hK => ?_)
      refine step_app rfl (.tmp 14) (.tmp 17) rfl rfl rfl (o7) (by first | exact hd.ext X7 | exact Ints.nil _ w.heap.size _ _ (by omega) (by simp)) (by simp <;> omega) (by first | assumption | (simp; done) | (simp; omega) | omega) ?_
      intro v11 w11 o11 gr11 bl11 eq11
      refine hK.out _ _ trivial (fun hHeld => ?_)
      clear hK K
      try simp only [Act.put, qa, qb, qc, qD, qE, qF]
      have X11 : Ext w w11 := Ext.below X7 bl11 (Nat.le_refl _)
      refine qHr 12 rfl (fun K hK => ?_)
      try simp only [Act.put, qa, qb, qc, qD, qE, qF]
      go_simp
      refine hK.out _ _ trivial (fun hHeld => ?_)
      clear hK K
      try simp only [Act.put, qa, qb, qc, qD, qE, qF]
      refine wpAnyH_done qKr ?_ _
      clear hHeld
      go_wp2_with fail
      refine bodyPost_ret (v := v11) (by simp only [results, Try.results75]; go_simp) rfl ?_
      exact PInts.mkz (by first | exact o11.z | (rw [List.drop_eq_nil_of_le hc]; exact o11.z)) (Nat.le_refl _) (by simp <;> omega) X11
    ·
     skip
     try simp only [Act.put, qa, qb, qc, qD, qE, qF]
     go_simp
     refine hK.out _ _ trivial (fun hHeld => ?_)
     clear hK K
     try simp only [Act.put, qa, qb, qc, qD, qE, qF]
     refine qHr 0 rfl (fun K hK => ?_)
     try simp only [Act.put, qa, qb, qc, qD, qE, qF]
     go_simp
     refine hK.out _ _ trivial (fun hHeld => ?_)
     clear hK K
     try simp only [Act.put, qa, qb, qc, qD, qE, qF]
     refine qHr 4 rfl (fun K hK => ?_)
     have l0 : OwnI ((w.drew.alloc (.cells #[.int .i64 x] 3)).alloc (.cells #[] 3)) w.heap.size (.slice (some ⟨w.heap.size + 1, 0, none⟩) 0 0) [] := by simpa using (OwnI.lit0 (w.drew.alloc (.cells #[.int .i64 x] 3)) w.heap.size (by simp))
     have l1 : Ints ((w.drew.alloc (.cells #[.int .i64 x] 3)).alloc (.cells #[] 3)) w.heap.size (.slice (some ⟨w.heap.size, 0, none⟩) 1 1) [x] := (Ints.one w.drew w.heap.size x (by simp)).ext ((Ext.refl _).alloc _)
     refine step_app rfl (.tmp 7) (.tmp 10) rfl rfl rfl (l0) (by first | exact ht.ext qXo | exact Ints.nil _ w.heap.size _ _ (by omega) (by simp)) (by simp <;> omega) (by first | assumption | (simp; done) | (simp; omega) | omega) ?_
     intro v4 w4 o4 gr4 bl4 eq4
     refine hK.out _ _ trivial (fun hHeld => ?_)
     clear hK K
     try simp only [Act.put, qa, qb, qc, qD, qE, qF]
     have X4 : Ext w w4 := Ext.below (show Ext w _ from qXo) bl4 (by simp)
     have z4 : w.heap.size ≤ w4.heap.size := X4.size
     replace l1 := l1.keepG gr4 (fun b off h _ => by cases h; show (some (w.heap.size + 1) : Option Nat) ≠ some w.heap.size; simp)
     refine qHr 7 rfl (fun K hK => ?_)
     refine step_app rfl (.tmp 11) (.tmp 13) rfl rfl rfl (o4) (l1) (by simp <;> omega) (by first | assumption | (simp; done) | (simp; omega) | omega) ?_
     intro v7 w7 o7 gr7 bl7 eq7
     refine hK.out _ _ trivial (fun hHeld => ?_)
     clear hK K
     try simp only [Act.put, qa, qb, qc, qD, qE, qF]
     have X7 : Ext w w7 := Ext.below (X4) bl7 (Nat.le_refl _)
     have z7 : w.heap.size ≤ w7.heap.size := X7.size
     refine qHr 11 rfl (fun K hK => ?_)
     refine step_app rfl (.tmp 14) (.tmp 17) rfl rfl rfl (o7) (by first | exact hd.ext X7 | exact Ints.nil _ w.heap.size _ _ (by omega) (by simp)) (by simp <;> omega) (by first | assumption | (simp; done) | (simp; omega) | omega) ?_
     intro v11 w11 o11 gr11 bl11 eq11
     refine hK.out _ _ trivial (fun hHeld => ?_)
     clear hK K
     try simp only [Act.put, qa, qb, qc, qD, qE, qF]
     have X11 : Ext w w11 := Ext.below X7 bl11 (Nat.le_refl _)
     refine qHr 12 rfl (fun K hK => ?_)
     try simp only [Act.put, qa, qb, qc, qD, qE, qF]
     go_simp
     refine hK.out _ _ trivial (fun hHeld => ?_)
     clear hK K
     try simp only [Act.put, qa, qb, qc, qD, qE, qF]
     refine wpAnyH_done qKr ?_ _
     clear hHeld
     go_wp2_with fail
     refine bodyPost_ret (v := v11) (by simp only [results, Try.results75]; go_simp) rfl ?_
     exact PInts.mkz (by first | exact o11.z | (rw [List.drop_eq_nil_of_le hc]; exact o11.z)) (Nat.le_refl _) (by simp <;> omega) X11

end Go.Proofs.Ytfbbnbpobojboaa

/- Walks: made, PermuteDims, FlipDim, AddDim and WindowsOf of the reference. -/
namespace Go.Proofs.Ytfbbnbpobojboaa
open Go.RowKit
set_option linter.unusedVariables false
set_option maxRecDepth 100000


def madeV (b : Int) (s t : List Int) : VBool := if viewB b s t then (b, s, t, true) else noV
theorem made_c (b1 : Int) (u1 v1 : Value) (s1 t1 : List Int) (w : World) (l1 m1 : Nat) (h1 : Ints w l1 u1 s1) (k1 : Ints w m1 v1 t1) :
    Calls Try.prog 129 #[.agg #[.int .i64 b1, u1, v1]] w (PVB w (madeV b1 s1 t1)) := by
  cases ha : viewB b1 s1 t1
  · have : madeV b1 s1 t1 = noV := by unfold madeV; rw [ha]; rfl
    rw [this]; exact made_0 b1 u1 v1 s1 t1 w l1 m1 h1 k1 ha
  · have : madeV b1 s1 t1 = (b1, s1, t1, true) := by unfold madeV; rw [ha]; rfl
    rw [this]; exact made_1 b1 u1 v1 s1 t1 w l1 m1 h1 k1 ha
theorem PVB.any {w w' : World} {x : VBool} {b : Int} {s t : List Int} {ok : Bool} {v1 v2 : Value} (h : x = (b, s, t, ok)) (o1 : OwnZ w' w.heap.size v1 s) (o2 : OwnZ w' w.heap.size v2 t) (hd : s ≠ [] → t ≠ [] → v1.ownBlock ≠ v2.ownBlock) (l1 : s.length ≤ 4194304) (l2 : t.length ≤ 4194304) (hx : Ext w w') :
    PVB w x (.returned (.tuple #[.agg #[.int .i64 b, v1, v2], .bool ok])) w' := by
  subst h; exact ⟨v1, v2, rfl, o1.ints l1, o2.ints l2, o1, o2, hd, hx⟩
/-- the view of a VBool: as many strides as extents, no more than four -/
def VBool.fit (x : VBool) : Prop := x.2.2.1.length = x.2.1.length ∧ x.2.1.length ≤ 4
def insL (xs : List Int) (i : Nat) (x : Int) : List Int := xs.take i ++ [x] ++ xs.drop i
end Go.Proofs.Ytfbbnbpobojboaa

/- Words for walks: an owned row with one element more. No condition. -/
namespace Go.Proofs.Ytfbbnbpobojboaa
open Go.RowKit
set_option linter.unusedVariables false
set_option maxRecDepth 100000

end Go.Proofs.Ytfbbnbpobojboaa

/- Walks: WindowsOf of the reference. -/
namespace Go.Proofs.Ytfbbnbpobojboaa
open Go.RowKit
set_option linter.unusedVariables false
set_option maxRecDepth 100000

end Go.Proofs.Ytfbbnbpobojboaa

/- Walks: drawn ranges and slices. -/
namespace Go.Proofs.Ytfbbnbpobojboaa
open Go.RowKit
set_option linter.unusedVariables false
set_option maxRecDepth 100000

end Go.Proofs.Ytfbbnbpobojboaa

/- Walks: drawn slices. -/
namespace Go.Proofs.Ytfbbnbpobojboaa
open Go.RowKit
set_option linter.unusedVariables false
set_option maxRecDepth 100000

/-- a slice at a block -/
def SlAt (w : World) (g : Nat) : Prop := ∃ (F T B : Int) (hf ht : Bool), w.cell? ⟨g, 0, none⟩ = some (.int .i64 F) ∧ w.cell? ⟨g, 1, none⟩ = some (.int .i64 T) ∧ w.cell? ⟨g, 2, none⟩ = some (.int .i64 B) ∧ w.cell? ⟨g, 3, none⟩ = some (.bool hf) ∧ w.cell? ⟨g, 4, none⟩ = some (.bool ht) ∧
  w.frozen? ⟨g, 0, none⟩ = false ∧ w.frozen? ⟨g, 1, none⟩ = false ∧ w.frozen? ⟨g, 2, none⟩ = false ∧ w.frozen? ⟨g, 3, none⟩ = false ∧ w.frozen? ⟨g, 4, none⟩ = false
theorem SlAt.lt {w : World} {g : Nat} (h : SlAt w g) : g < w.heap.size := by obtain ⟨F, T, B, hf, ht, h, _⟩ := h; exact qB h

end Go.Proofs.Ytfbbnbpobojboaa

/- Walks: drawn shapes. -/
namespace Go.Proofs.Ytfbbnbpobojboaa
open Go.RowKit
set_option linter.unusedVariables false
set_option maxRecDepth 100000

theorem Below.chg {B : Nat} {a b : World} (h : Below B a b) : Chg B a.heap.size a b :=
  ⟨h.os, h.tape, h.output, h.size, fun k hk hd => by
    rcases hd with hd | hd
    · exact h.block k hd
    · omega⟩
theorem Rd.below {B : Nat} {a b : World} {rb k : Nat} (h : Rd a rb k) (hb : Below B a b) (hl : rb < B) : Rd b rb k := h.chgO (Below.chg hb) hl
theorem Rch.below {rb : Nat} {w a b : World} (h : Chg rb (rb + 1) w a) (hb : Below w.heap.size a b) : Chg rb (rb + 1) w b :=
  ⟨hb.os.trans h.os, hb.tape.trans h.tape, hb.output.trans h.output, Nat.le_trans h.size hb.size, fun k hk hd => (hb.block k hk).trans (h.block k hk hd)⟩

end Go.Proofs.Ytfbbnbpobojboaa

/- Words for drawn views: a view in a block, with rows of its own. No condition. -/
namespace Go.Proofs.Ytfbbnbpobojboaa
open Go.RowKit
set_option linter.unusedVariables false
set_option maxRecDepth 100000

/-- a view lies in block g; its rows are the call's own, from block B on, not g -/
structure VAt (B g : Nat) (w : World) (b : Int) (u v : Value) (s t : List Int) : Prop where
  c0 : w.cell? ⟨g, 0, none⟩ = some (.int .i64 b)
  c1 : w.cell? ⟨g, 1, none⟩ = some u
  c2 : w.cell? ⟨g, 2, none⟩ = some v
  f0 : w.frozen? ⟨g, 0, none⟩ = false
  f1 : w.frozen? ⟨g, 1, none⟩ = false
  f2 : w.frozen? ⟨g, 2, none⟩ = false
  o1 : OwnZ w B u s
  o2 : OwnZ w B v t
  sep : s ≠ [] → t ≠ [] → u.ownBlock ≠ v.ownBlock
  n1 : s ≠ [] → u.ownBlock ≠ some g
  n2 : t ≠ [] → v.ownBlock ≠ some g
  fit : t.length = s.length
  le : s.length ≤ 4
section
variable {B g rb lo hi : Nat} {w w' : World} {b : Int} {u v : Value} {s t : List Int}
theorem VAt.lt (h : VAt B g w b u v s t) : g < w.heap.size := qB h.c0
theorem VAt.ext (h : VAt B g w b u v s t) (x : Ext w w') : VAt B g w' b u v s t :=
  ⟨x.cell h.c0, x.cell h.c1, x.cell h.c2, x.frz h.lt h.f0, x.frz h.lt h.f1, x.frz h.lt h.f2, h.o1.ext x, h.o2.ext x, h.sep, h.n1, h.n2, h.fit, h.le⟩
/-- another block has turned, behind the rows and the view -/
theorem VAt.chgB (h : VAt B g w b u v s t) (k : Chg lo hi w w') (hg : g < lo) (h1 : s ≠ [] → ∀ q, u.ownBlock = some q → q < lo) (h2 : t ≠ [] → ∀ q, v.ownBlock = some q → q < lo) : VAt B g w' b u v s t :=
  ⟨k.cell (by omega) h.c0, k.cell (by omega) h.c1, k.cell (by omega) h.c2, k.frzO (by omega) h.lt h.f0, k.frzO (by omega) h.lt h.f1, k.frzO (by omega) h.lt h.f2, h.o1.chgB k h1, h.o2.chgB k h2, h.sep, h.n1, h.n2, h.fit, h.le⟩
/-- another block has turned, ahead of the rows, not the view's -/
theorem VAt.chg (h : VAt B g w b u v s t) (k : Chg lo hi w w') (hg : g < lo ∨ hi ≤ g) (hb : hi ≤ B) : VAt B g w' b u v s t :=
  ⟨k.cell hg h.c0, k.cell hg h.c1, k.cell hg h.c2, k.frzO hg h.lt h.f0, k.frzO hg h.lt h.f1, k.frzO hg h.lt h.f2, h.o1.chg k hb, h.o2.chg k hb, h.sep, h.n1, h.n2, h.fit, h.le⟩
theorem VAt.lower (h : VAt B g w b u v s t) {B' : Nat} (hb : B' ≤ B) : VAt B' g w b u v s t := ⟨h.c0, h.c1, h.c2, h.f0, h.f1, h.f2, h.o1.lower hb, h.o2.lower hb, h.sep, h.n1, h.n2, h.fit, h.le⟩
theorem VAt.new (b : Int) (o1 : OwnZ w B u s) (o2 : OwnZ w B v t) (hs : s ≠ [] → t ≠ [] → u.ownBlock ≠ v.ownBlock) (hf : t.length = s.length) (hl : s.length ≤ 4) : VAt B w.heap.size (w.alloc (.cells #[.int .i64 b, u, v] 36)) b u v s t :=
  ⟨by simp, by simp, by simp, by simp, by simp, by simp, o1.ext ((Ext.refl w).alloc _), o2.ext ((Ext.refl w).alloc _), hs, (fun h e => by have := o1.bound h _ e; omega), (fun h e => by have := o2.bound h _ e; omega), hf, hl⟩
end
/-- a view is stored into a block that lies ahead of its rows -/
theorem VAt.put {B g : Nat} {w : World} {b b0 : Int} {u v u0 v0 : Value} {s t : List Int} (c0 : w.cell? ⟨g, 0, none⟩ = some (.int .i64 b0)) (c1 : w.cell? ⟨g, 1, none⟩ = some u0) (c2 : w.cell? ⟨g, 2, none⟩ = some v0)
    (f0 : w.frozen? ⟨g, 0, none⟩ = false) (f1 : w.frozen? ⟨g, 1, none⟩ = false) (f2 : w.frozen? ⟨g, 2, none⟩ = false) (o1 : OwnZ w B u s) (o2 : OwnZ w B v t) (hs : s ≠ [] → t ≠ [] → u.ownBlock ≠ v.ownBlock) (hf : t.length = s.length) (hl : s.length ≤ 4) (hg : g < B) :
    VAt B g (((w.setCell ⟨g, 0, none⟩ (.int .i64 b)).setCell ⟨g, 1, none⟩ u).setCell ⟨g, 2, none⟩ v) b u v s t := by
  have k := Chg.three (lo := g) w (.int .i64 b) u v
  have m1 : s ≠ [] → u.ownBlock ≠ some g := fun h e => by obtain ⟨q, e2, h2, _⟩ := o1.lt h; rw [e2] at e; cases e; omega
  have m2 : t ≠ [] → v.ownBlock ≠ some g := fun h e => by obtain ⟨q, e2, h2, _⟩ := o2.lt h; rw [e2] at e; cases e; omega
  exact ⟨by go_simp, by go_simp, by go_simp, by go_simp, by go_simp, by go_simp, o1.chg k (by omega), o2.chg k (by omega), hs, m1, m2, hf, hl⟩

/-- a view that is told to be one has a dimension -/
def VBool.live (x : VBool) : Prop := x.2.2.2 = true → x.2.1 ≠ []
/-- a call hands back a view with a bool: as many strides as extents, no more than four -/
def PFit (w : World) (e : Ending) (w' : World) : Prop :=
  ∃ (b : Int) (s t : List Int) (ok : Bool) (p1 p2 : Option Addr) (n1 r1 n2 r2 : Nat), e = .returned (.tuple #[.agg #[.int .i64 b, .slice p1 n1 r1, .slice p2 n2 r2], .bool ok]) ∧ OwnZ w' w.heap.size (.slice p1 n1 r1) s ∧ OwnZ w' w.heap.size (.slice p2 n2 r2) t ∧
    (s ≠ [] → t ≠ [] → (Value.slice p1 n1 r1).ownBlock ≠ (Value.slice p2 n2 r2).ownBlock) ∧ t.length = s.length ∧ (s.length ≤ 4 ∧ (ok = true → s ≠ [])) ∧ Ext w w'
theorem PFit.of {w w' : World} {e : Ending} {x : VBool} (h : PVB w x e w') (hf : x.fit) (hv : x.live) : PFit w e w' := by
  obtain ⟨b, s, t, ok⟩ := x
  obtain ⟨sh, st, rfl, -, -, o1, o2, od, xx⟩ := h
  obtain ⟨p1, n1, r1, rfl⟩ := o1.form
  obtain ⟨p2, n2, r2, rfl⟩ := o2.form
  exact ⟨b, s, t, ok, p1, p2, n1, r1, n2, r2, rfl, o1, o2, od, hf.1, ⟨hf.2, hv⟩, xx⟩
/-- the state behind the choice of the next view -/
def NextAt (rb q gn gv : Nat) (w : World) (b : Int) (u v : Value) (s t : List Int) (ok : Value) (wx : World) : Prop :=
  ∃ (o : Bool) (b' : Int) (s' t' : List Int) (p1 p2 : Option Addr) (m1 r1 m2 r2 : Nat), ok = .bool o ∧ (o = true → s' ≠ []) ∧ VAt (gn + 1) gn wx b' (.slice p1 m1 r1) (.slice p2 m2 r2) s' t' ∧ VAt (w.heap.size + 1) gv wx b u v s t ∧
    VAt (w.heap.size + 1) w.heap.size wx 0 (.slice none 0 0) (.slice none 0 0) [] [] ∧ Rd wx rb (q + 20) ∧ Rch rb w wx
theorem NextAt.put {rb q gn gv B0 B m1 r1 m2 r2 : Nat} {w w12 : World} {b bn b' : Int} {u v un vn : Value} {p1 p2 : Option Addr} {s t sn tn s' t' : List Int} (o : Bool) (VN : VAt B0 gn w12 bn un vn sn tn) (V : VAt (w.heap.size + 1) gv w12 b u v s t)
    (Q : VAt (w.heap.size + 1) w.heap.size w12 0 (.slice none 0 0) (.slice none 0 0) [] []) (hr : Rd w12 rb (q + 20)) (X : Rch rb w w12) (h1 : rb < w.heap.size) (h2 : w.heap.size < gv) (h3 : gv < gn)
    (hb1 : s ≠ [] → ∀ g, u.ownBlock = some g → g < gn) (hb2 : t ≠ [] → ∀ g, v.ownBlock = some g → g < gn) (o1 : OwnZ w12 B (.slice p1 m1 r1) s') (o2 : OwnZ w12 B (.slice p2 m2 r2) t') (hs : s' ≠ [] → t' ≠ [] → (Value.slice p1 m1 r1).ownBlock ≠ (Value.slice p2 m2 r2).ownBlock) (hf : t'.length = s'.length) (hl : s'.length ≤ 4 ∧ (o = true → s' ≠ [])) (hB : gn < B) :
    NextAt rb q gn gv w b u v s t (.bool o) (((w12.setCell ⟨gn, 0, none⟩ (.int .i64 b')).setCell ⟨gn, 1, none⟩ (.slice p1 m1 r1)).setCell ⟨gn, 2, none⟩ (.slice p2 m2 r2)) :=
  ⟨o, b', s', t', p1, p2, m1, r1, m2, r2, rfl, hl.2, VAt.put VN.c0 VN.c1 VN.c2 VN.f0 VN.f1 VN.f2 (o1.lower hB) (o2.lower hB) hs hf hl.1 (Nat.lt_succ_self _), V.chgB (Chg.three w12 _ _ _) h3 hb1 hb2,
    Q.chgB (Chg.three w12 _ _ _) (by omega) (fun h => absurd rfl h) (fun h => absurd rfl h),
    Rd.set2 (show rb < gn by omega) (Rd.set2 (show rb < gn by omega) (Rd.set2 (show rb < gn by omega) hr)),
    ((X.set (show w.heap.size ≤ gn by omega) _).set (show w.heap.size ≤ gn by omega) _).set (show w.heap.size ≤ gn by omega) _⟩

end Go.Proofs.Ytfbbnbpobojboaa

/- Helpers of walks: capacities, two rows that grow. -/
namespace Go.Proofs.Ytfbbnbpobojboaa
open Go.RowKit
set_option linter.unusedVariables false

theorem Ints.capLe {w : World} {lo : Nat} {a : Option Addr} {n c : Nat} {xs : List Int} (h : Ints w lo (.slice a n c) xs) : n ≤ c ∧ c ≤ maxLen := by
  obtain ⟨a', c', e, h1, h2, _⟩ := h
  cases e
  exact ⟨h1, h2⟩
theorem PViewB.two {w w' : World} {B : Nat} {b : Int} {s t : List Int} {v1 v2 : Value} (T : Two B w' v1 v2 s t) (hB : w.heap.size ≤ B) (hs : s.length ≤ 1000) (ht : t.length ≤ 1000) (hx : Ext w w') :
    PViewB w b s t true (.returned (.tuple #[.agg #[.int .i64 b, v1, v2], .bool true])) w' :=
  ⟨_, _, rfl, (T.o1.ints (by omega)).lower hB, (T.o2.ints (by omega)).lower hB, (T.o1.lower hB).z, (T.o2.lower hB).z,
    (fun n1 n2 h => by obtain ⟨g, _, h1, _⟩ := (T.o1).row n1; rw [h1] at h; exact T.sep g (by rw [h1]; rfl) (h ▸ rfl)), hx⟩
theorem pi_eq {w w0 : World} {xs ys : List Int} {f : Nat} {args : Array Value} (he : xs = ys) (h : Calls Try.prog f args w (PInts w0 xs)) : Calls Try.prog f args w (PInts w0 ys) := he ▸ h
theorem pv_eq {w w0 : World} {x : VBool} {B : Int} {S T : List Int} {o : Bool} {f : Nat} {args : Array Value} (he : x = (B, S, T, o)) (h : Calls Try.prog f args w (PVB w0 x)) : Calls Try.prog f args w (PViewB w0 B S T o) := by subst he; exact h
end Go.Proofs.Ytfbbnbpobojboaa

/- Walks: slices.Delete of one number of a row of one's own. -/
namespace Go.Proofs.Ytfbbnbpobojboaa
open Go.RowKit
set_option linter.unusedVariables false
set_option maxRecDepth 100000

def delL (xs : List Int) (i : Nat) : List Int := xs.take i ++ xs.drop (i + 1)
theorem delL_len (xs : List Int) (i : Nat) (h : i < xs.length) : (delL xs i).length = xs.length - 1 := by unfold delL; simp; omega
theorem setCells_chg (g : Nat) : ∀ (vs : List Value) (o : Nat) (w : World), Chg g (g + 1) w (w.setCells g o vs)
  | [], _, w => Chg.refl _ _ _
  | v :: r, o, w => by
    have h1 : Chg g (g + 1) w (w.setCell ⟨g, o, none⟩ v) := Chg.setCell (p := ⟨g, o, none⟩) (Chg.refl g (g + 1) _) (Nat.le_refl _) (Nat.lt_succ_self _) v
    exact h1.trans (setCells_chg g r (o + 1) _)
theorem setCells_frz (g : Nat) : ∀ (vs : List Value) (o : Nat) (w : World) (a : Addr), (w.setCells g o vs).frozen? a = w.frozen? a
  | [], _, _, _ => rfl
  | v :: r, o, w, a => by
    rw [World.setCells, setCells_frz g r (o + 1) _ a]
    first | (simp; done) | go_simp
theorem Ints.chgN {w w' : World} {lo l h g o n c : Nat} {xs : List Int} (I : Ints w lo (.slice (some ⟨g, o, none⟩) n c) xs) (k : Chg l h w w') (hg : g < l ∨ h ≤ g) : Ints w' lo (.slice (some ⟨g, o, none⟩) n c) xs := by
  obtain ⟨a', c', e, h1, h2, h3, h4⟩ := I
  cases e
  refine ⟨_, _, rfl, h1, h2, h3, fun i hi => ?_⟩
  obtain ⟨b, of, ha, hb, hc, hf⟩ := h4 i hi
  cases ha
  exact ⟨_, _, rfl, hb, k.cell hg hc, k.frzO hg (qB hc) hf⟩
/-- a call hands back a view and whether there is one -/
def PVWB (w : World) (b : Int) (s t : List Int) (ok : Bool) (e : Ending) (w' : World) : Prop := ∃ u v, e = .returned (.tuple #[.agg #[.int .i64 b, u, v], .bool ok]) ∧ Ints w' w.heap.size u s ∧ Ints w' w.heap.size v t ∧ Ext w w'
theorem PVWB.no {w w' : World} (h : Ext w w') : PVWB w 0 [] [] false (.returned (.tuple #[.agg #[.int .i64 0, .slice none 0 0, .slice none 0 0], .bool false])) w' :=
  ⟨_, _, rfl, Ints.nil _ _ _ _ (by simp) (fun _ => rfl), Ints.nil _ _ _ _ (by simp) (fun _ => rfl), h⟩
end Go.Proofs.Ytfbbnbpobojboaa

/- Walks: slices.Insert of one number into a row of one's own. -/
namespace Go.Proofs.Ytfbbnbpobojboaa
open Go.RowKit
set_option linter.unusedVariables false
set_option maxRecDepth 100000

def insRen : Go.Shelf.Ren := ⟨fun | 21 => 79 | 27 => 131 | 28 => 132 | 35 => 169 | 39 => 191 | n => n, fun | 22 => 22 | 3 => 3 | 4 => 4 | 0 => 0 | n => n, fun | n => n⟩
theorem insLays : Go.Proofs.Lays2.n21 Try.prog insRen := {
 mixed := by kernel_rfl
 f21 := Try.func79.trans (congrArg some qKr)
 f27 := Try.func131.trans (congrArg some qKr)
 f28 := Try.func132.trans (congrArg some qKr)
 f35 := Try.func169.trans (congrArg some qKr)
 f39 := Try.func191.trans (congrArg some qKr)
 t0 := Try.underlying0
 a0 := Try.isAgg0
 z0 := Try.sizeOf0
 v0 := Try.zeroValue0
 t3 := Try.underlying3
 a3 := Try.isAgg3
 z3 := Try.sizeOf3
 v3 := Try.zeroValue3
 t4 := Try.underlying4
 a4 := Try.isAgg4
 z4 := Try.sizeOf4
 v4 := Try.zeroValue4
 t22 := Try.underlying22
 a22 := Try.isAgg22
 z22 := Try.sizeOf22
 v22 := Try.zeroValue22
 i3 := by kernel_rfl }
theorem insL_len (xs : List Int) (i : Nat) (x : Int) (h : i ≤ xs.length) : (insL xs i x).length = xs.length + 1 := by unfold insL; simp; omega
theorem insL_get (xs : List Int) (i : Nat) (x : Int) (h : i ≤ xs.length) (j : Nat) (hj : j < xs.length + 1) : (insL xs i x).getD j 0 = if j < i then xs.getD j 0 else if j = i then x else xs.getD (j - 1) 0 := by
 unfold insL
 have h1 : (xs.take i).length = i := by simp; omega
 by_cases h2 : j < i
 ·
  rw [if_pos h2, List.getD_eq_getElem?_getD, List.getElem?_append_left (by simp; omega), List.getElem?_append_left (by omega), List.getElem?_take, if_pos h2, ← List.getD_eq_getElem?_getD]
 ·
  rw [if_neg h2]
  by_cases h3 : j = i
  ·
   subst h3
   rw [if_pos rfl, List.getD_eq_getElem?_getD, List.getElem?_append_left (by simp; omega), List.getElem?_append_right (by omega), h1]; simp
  ·
   rw [if_neg h3, List.getD_eq_getElem?_getD, List.getElem?_append_right (by simp; omega), List.getElem?_drop, List.length_append, h1, List.length_singleton, List.getD_eq_getElem?_getD]
   congr 2; omega
theorem ints_of_cells {w : World} {B g n c : Nat} {xs : List Int} (hB : B ≤ g) (hn : n = xs.length) (hc : n ≤ c) (hm : c ≤ maxLen) (hl : n ≤ 4194304) (h : ∀ j, j < n → w.cell? ⟨g, j, none⟩ = some (.int .i64 (xs.getD j 0)) ∧ w.frozen? ⟨g, j, none⟩ = false) : Ints w B (.slice (some ⟨g, 0, none⟩) n c) xs := by
 subst hn
 exact ⟨some ⟨g, 0, none⟩, c, rfl, hc, hm, ⟨hl, fun h => by cases h⟩, fun i hi => ⟨g, 0, rfl, hB, by rw [Nat.zero_add]; exact (h i hi).1, by rw [Nat.zero_add]; exact (h i hi).2⟩⟩
set_option maxHeartbeats 1600000 in
theorem insert_row (xs : List Int) (g n c B i : Nat) (x : Int) (w0 : World) (O : OwnI w0 B (.slice (some ⟨g, 0, none⟩) n c) xs) (hi : i ≤ xs.length) (hl : xs.length ≤ 1000) :
  Calls Try.prog 79 #[.slice (some ⟨g, 0, none⟩) n c, .int .i64 (i : Int), .slice (some ⟨w0.heap.size, 0, none⟩) 1 1] (w0.alloc (.cells #[.int .i64 x] 3)) fun e w' =>
   ∃ g' c', e = .returned (.slice (some ⟨g', 0, none⟩) (n + 1) c') ∧ Ints w' B (.slice (some ⟨g', 0, none⟩) (n + 1) c') (insL xs i x) ∧ (g' = g ∨ w0.heap.size < g') ∧ g' < w'.heap.size ∧ Chg g (g + 1) w0 w' := by
 have hgl : B ≤ g ∧ g < w0.heap.size := own_lt O rfl
 have I := O.ints (by omega)
 have hil := insL_len xs i x hi
 have hig := insL_get xs i x hi
 rcases O.2 with ⟨h2, _⟩ | ⟨g', cap, cur, hv, hb, hh, hnc, hcm, hcs, ht⟩
 ·
  cases h2
 cases hv
 have O1 := O.ext ((Ext.refl w0).alloc (.cells #[.int .i64 x] 3))
 have hcs' : cur.size = c := by simpa using hcs
 obtain ⟨w, hw⟩ : ∃ w, w0.alloc (.cells #[.int .i64 x] 3) = w := ⟨_, rfl⟩
 have hwX : Ext w0 w := by subst hw; exact (Ext.refl _).alloc _
 have hws : w.heap.size = w0.heap.size + 1 := by subst hw; simp
 have hne : w0.heap.size ≠ g := by omega
 have hlit : w.cell? ⟨w0.heap.size, 0, none⟩ = some (.int .i64 x) := by subst hw; simp
 have hlf : ∀ j, w.frozen? ⟨w0.heap.size, j, none⟩ = false := fun j => by subst hw; simp
 have hsa : w.shape? w0.heap.size = some (3, 1) := by subst hw; unfold World.shape?; rw [heap_alloc_new]; rfl
 have hgh : w.heap[g]? = some (.cells cur 3 (0, 0)) := (hwX.block g hgl.2).trans hh
 have hsb : w.shape? g = some (3, c) := by unfold World.shape?; rw [hgh, ← hcs']
 have hce : ∀ j, w.cell? ⟨g, j, none⟩ = cur[j]? := fun j => by unfold World.cell?; rw [hgh]; rfl
 have hfr : ∀ j, w.frozen? ⟨g, j, none⟩ = false := fun j => by unfold World.frozen?; rw [hgh]; simp
 rw [hw] at O1 ⊢
 have hcell : ∀ j, j < xs.length → w.cell? ⟨g, j, none⟩ = some (.int .i64 (xs.getD j 0)) := fun j hj => (O1.cell j hj).1
 have hsome : ∀ j, j < c → (w.cell? ⟨g, j, none⟩).isSome = true := fun j hj => by rw [hce, Array.getElem?_eq_getElem (by omega)]; rfl
 have hmap : ∀ j v, (xs.map (Value.int .i64))[j]? = some v → w.cell? ⟨g, 0 + j, none⟩ = some v := fun j v h => by
  rw [List.getElem?_map] at h
  rcases Nat.lt_or_ge j xs.length with hj | hj
  ·
   rw [List.getElem?_eq_getElem hj] at h
   rw [Nat.zero_add, hcell j hj, ← h, getD_get hj]; rfl
  ·
   rw [List.getElem?_eq_none hj] at h; cases h
 have hmv : ∀ j v, ([Value.int .i64 x] : List Value)[j]? = some v → w.cell? ⟨w0.heap.size, 0 + j, none⟩ = some v := fun j v h => by
  cases j with
  | zero => simp at h; subst h; exact hlit
  | succ j => simp at h
 have h1c : ∀ v ∈ xs.map (Value.int .i64), v.oneCell' = true := fun v hv => by simp at hv; obtain ⟨y, _, rfl⟩ := hv; rfl
 have h1v : ∀ v ∈ ([Value.int .i64 x] : List Value), v.oneCell' = true := fun v hv => by simp at hv; subst hv; rfl
 have hmx : c ≤ 9223372036854775807 := by unfold maxLen at hcm; omega
 have hc0 : ∀ W : World, Chg g (g + 1) w W → Chg g (g + 1) w0 W := fun W K => (Chg.of_ext hwX).trans K
 have hgw : g < w.heap.size := by omega
 by_cases hroom : xs.length + 1 ≤ c
 ·
  by_cases hin : i < xs.length
  ·
   have key := Any2.slices_Insert_int_shift insLays g 0 xs.length c i w0.heap.size 0 1 1 (xs.map (Value.int .i64)) [.int .i64 x] w hin (by decide) hroom hmx hne (by simp) rfl hmap (fun j hj => by rw [Nat.zero_add]; exact hsome j (by omega)) (fun j _ => hfr _) hmv h1c h1v 3 3 1 c hsa hsb (by omega) (hlf 0) (hlf 1)
   refine key.mono ?_
   rintro e w' ⟨rfl, rfl⟩
   simp only [Nat.zero_add]
   have hdl : ((xs.map (Value.int .i64)).drop i).length = xs.length - i := by simp
   have hs1 : ∀ j, j < ((xs.map (Value.int .i64)).drop i).length → (w.drew.cell? ⟨g, (i + 1) + j, none⟩).isSome = true := fun j hj => by rw [hdl] at hj; exact hsome _ (by omega)
   have K : Chg g (g + 1) w ((w.drew.setCells g (i + 1) ((xs.map (Value.int .i64)).drop i)).setCells g i [.int .i64 x]) :=
    ((Chg.of_ext ((Ext.refl w).drew)).trans (setCells_chg g _ _ _)).trans (setCells_chg g _ _ _)
   refine ⟨g, c, rfl, ints_of_cells hgl.1 (by omega) hroom hcm (by omega) (fun j hj => ⟨?_, by rw [setCells_frz, setCells_frz]; exact hfr j⟩), .inl rfl, Nat.lt_of_lt_of_le hgw K.size, hc0 _ K⟩
   rw [hig j hj]
   by_cases h1 : j = i
   ·
    subst h1
    rw [if_neg (by omega), if_pos rfl]
    have := World.cell?_setCells_in g [.int .i64 x] j (w.drew.setCells g (j + 1) ((xs.map (Value.int .i64)).drop j)) (fun q hq => by
     simp at hq; subst hq
     rw [World.cell?_setCells_out _ _ _ _ _ (fun _ _ => by simp <;> omega)]
     exact hsome _ (by omega)) 0 (by simp)
    simpa using this
   ·
    rw [World.cell?_setCells_out _ _ _ _ _ (fun _ _ => by simp <;> omega)]
    by_cases h2 : j < i
    ·
     rw [if_pos h2, World.cell?_setCells_out _ _ _ _ _ (fun _ _ => by simp <;> omega)]
     exact hcell j (by omega)
    ·
     rw [if_neg h2, if_neg h1]
     have := World.cell?_setCells_in g ((xs.map (Value.int .i64)).drop i) (i + 1) w.drew hs1 (j - (i + 1)) (by rw [hdl]; omega)
     rw [show i + 1 + (j - (i + 1)) = j by omega] at this
     rw [this]
     simp only [List.getElem_drop, List.getElem_map]
     rw [getD_get (show j - 1 < xs.length by omega)]
     congr 3; omega
  ·
   obtain rfl : i = xs.length := by omega
   have key := Any2.slices_Insert_int_end_room insLays g 0 xs.length c w0.heap.size 0 1 1 [.int .i64 x] w (by decide) hroom hmx rfl (fun j hj => by rw [Nat.zero_add]; exact hsome _ (by omega)) (fun j _ => hfr _) hmv h1v
   refine key.mono ?_
   rintro e w' ⟨rfl, rfl⟩
   simp only [Nat.zero_add]
   have K : Chg g (g + 1) w (w.setCells g xs.length [.int .i64 x]) := setCells_chg g _ _ _
   refine ⟨g, c, rfl, ints_of_cells hgl.1 (by omega) hroom hcm (by omega) (fun j hj => ⟨?_, by rw [setCells_frz]; exact hfr j⟩), .inl rfl, Nat.lt_of_lt_of_le hgw K.size, hc0 _ K⟩
   rw [hig j hj]
   by_cases h1 : j = xs.length
   ·
    subst h1
    rw [if_neg (by omega), if_pos rfl]
    have := World.cell?_setCells_in g [.int .i64 x] xs.length w (fun q hq => by simp at hq; subst hq; exact hsome _ (by omega)) 0 (by simp)
    simpa using this
   ·
    rw [World.cell?_setCells_out _ _ _ _ _ (fun _ _ => by simp <;> omega), if_pos (by omega)]
    exact hcell j (by omega)
 ·
  have hcn : c = xs.length := by omega
  by_cases hin : i < xs.length
  ·
   have key := Any2.slices_Insert_int_grow insLays g 0 xs.length c i w0.heap.size 0 1 1 (xs.map (Value.int .i64)) [.int .i64 x] w hin (by decide) (by omega) (by omega) (by omega) (by simp) rfl hmap hmv h1c h1v
   refine key.mono ?_
   rintro e w' ⟨rfl, rfl⟩
   obtain ⟨G, hG⟩ : ∃ G, G = grownCap w (xs.length + 1) c (insRen.t 3) := ⟨_, rfl⟩
   have hGn : xs.length + 1 ≤ G := by rw [hG]; exact grownCap_ge w _ _ _
   have hG63 : G ≤ maxLen := by rw [hG]; exact grownCap_le_maxLen w _ _ _ (by unfold maxLen; omega)
   rw [← hG]
   obtain ⟨ROW, hROW⟩ : ∃ ROW : Array Value, ROW = ((xs.map (Value.int .i64)).take i).toArray ++ Builtin.zeroCells (Value.int .i64 0).cells (xs.length + 1 - i) ++ Builtin.zeroCells (Value.int .i64 0).cells (G - (xs.length + 1)) := ⟨_, rfl⟩
   rw [← hROW]
   have hRl : xs.length + 1 ≤ ROW.size := by rw [hROW]; simp [Builtin.zeroCells, Value.cells]; omega
   obtain ⟨W1, hW1⟩ : ∃ W1, W1 = (w.alloc (.cells ROW (insRen.t 3))) := ⟨_, rfl⟩
   rw [← hW1]
   have hX1 : Ext w W1 := by rw [hW1]; exact (Ext.refl _).alloc _
   have hR : ∀ j, W1.cell? ⟨w.heap.size, j, none⟩ = ROW[j]? := fun j => by rw [hW1, World.cell?_alloc_at (w := w) ROW _ w.heap.size j rfl]
   have hRf : ∀ j, W1.frozen? ⟨w.heap.size, j, none⟩ = false := fun j => by rw [hW1]; exact World.frozen?_alloc_at (w := w) ROW _ w.heap.size j rfl
   have hRs : ∀ j, j < xs.length + 1 → (W1.cell? ⟨w.heap.size, j, none⟩).isSome = true := fun j hj => by rw [hR, Array.getElem?_eq_getElem (by omega)]; rfl
   have hW1s : w.heap.size < W1.heap.size := by rw [hW1]; simp
   have hdl : ((xs.map (Value.int .i64)).drop i).length = xs.length - i := by simp
   obtain ⟨W2, hW2⟩ : ∃ W2, W2 = (W1.drew.setCells w.heap.size i [.int .i64 x]).drew := ⟨_, rfl⟩
   rw [← hW2]
   have hX2 : Ext w W2 := by
    rw [hW2]
    exact (hX1.chg ((Chg.of_ext ((Ext.refl W1).drew)).trans (setCells_chg w.heap.size _ _ _)) (Nat.le_refl _)).drew
   have h2s : w.heap.size < W2.heap.size := by
    rw [hW2]
    have := (setCells_chg w.heap.size [.int .i64 x] i W1.drew).size
    simp at this ⊢; omega
   have hR2 : ∀ j, j ≠ i → W2.cell? ⟨w.heap.size, j, none⟩ = ROW[j]? := fun j hj => by
    rw [hW2]
    show (W1.drew.setCells w.heap.size i [.int .i64 x]).cell? _ = _
    rw [World.cell?_setCells_out _ _ _ _ _ (fun _ _ => by simp <;> omega)]
    exact hR j
   have hR2i : W2.cell? ⟨w.heap.size, i, none⟩ = some (.int .i64 x) := by
    rw [hW2]
    show (W1.drew.setCells w.heap.size i [.int .i64 x]).cell? _ = _
    have := World.cell?_setCells_in w.heap.size [.int .i64 x] i W1.drew (fun q hq => by simp at hq; subst hq; exact hRs _ (by omega)) 0 (by simp)
    simpa using this
   have hR2f : ∀ j, W2.frozen? ⟨w.heap.size, j, none⟩ = false := fun j => by
    rw [hW2]
    show (W1.drew.setCells w.heap.size i [.int .i64 x]).frozen? _ = _
    rw [setCells_frz]; exact hRf j
   have hR2s : ∀ j, j < xs.length + 1 → (W2.cell? ⟨w.heap.size, j, none⟩).isSome = true := fun j hj => by
    by_cases h : j = i
    ·
     subst h; rw [hR2i]; rfl
    ·
     rw [hR2 j h, Array.getElem?_eq_getElem (by omega)]; rfl
   have K := setCells_chg w.heap.size ((xs.map (Value.int .i64)).drop i) (i + 1) W2
   have hX3 : Ext w (W2.setCells w.heap.size (i + 1) ((xs.map (Value.int .i64)).drop i)) := hX2.chg K (Nat.le_refl _)
   refine ⟨w.heap.size, G, rfl, ints_of_cells (by omega) (by omega) hGn hG63 (by omega) (fun j hj => ⟨?_, by rw [setCells_frz]; exact hR2f j⟩), .inr (by omega), Nat.lt_of_lt_of_le h2s K.size, hc0 _ (Chg.of_ext hX3)⟩
   rw [hig j hj]
   by_cases h2 : j < i + 1
   ·
    rw [World.cell?_setCells_out _ _ _ _ _ (fun _ _ => by simp <;> omega)]
    by_cases h1 : j = i
    ·
     subst h1; rw [if_neg (by omega), if_pos rfl]; exact hR2i
    ·
     rw [if_pos (by omega), hR2 j h1, hROW, Array.getElem?_append_left (by simp [Builtin.zeroCells, Value.cells]; omega), Array.getElem?_append_left (by simp; omega)]
     simp only [List.getElem?_toArray, List.getElem?_take, List.getElem?_map]
     rw [if_pos (by omega), List.getElem?_eq_getElem (show j < xs.length by omega), getD_get (show j < xs.length by omega)]; rfl
   ·
    rw [if_neg (by omega), if_neg (by omega)]
    have := World.cell?_setCells_in w.heap.size ((xs.map (Value.int .i64)).drop i) (i + 1) W2 (fun q hq => by rw [hdl] at hq; exact hR2s _ (by omega)) (j - (i + 1)) (by rw [hdl]; omega)
    rw [show i + 1 + (j - (i + 1)) = j by omega] at this
    rw [this]
    simp only [List.getElem_drop, List.getElem_map]
    rw [getD_get (show j - 1 < xs.length by omega)]
    congr 3; omega
  ·
   obtain rfl : i = xs.length := by omega
   have key := Any2.slices_Insert_int_end_grow insLays (some ⟨g, 0, none⟩) xs.length c w0.heap.size 0 1 1 (xs.map (Value.int .i64)) [.int .i64 x] w (by decide) (by omega) (by omega) (by omega) (by simp) rfl (fun h => by cases h) (fun a ha j v hj => by
    cases ha
    have e : (⟨g, 0, none⟩ : Addr).add j = ⟨g, 0 + j, none⟩ := by unfold Addr.add; split <;> simp_all
    rw [e]; exact hmap j v hj) hmv h1v
   refine key.mono ?_
   rintro e w' ⟨rfl, rfl⟩
   obtain ⟨G, hG⟩ : ∃ G, G = grownCap w (xs.length + 1) c (insRen.t 3) := ⟨_, rfl⟩
   have hGn : xs.length + 1 ≤ G := by rw [hG]; exact grownCap_ge w _ _ _
   have hG63 : G ≤ maxLen := by rw [hG]; exact grownCap_le_maxLen w _ _ _ (by unfold maxLen; omega)
   rw [← hG]
   obtain ⟨ROW, hROW⟩ : ∃ ROW : Array Value, ROW = (xs.map (Value.int .i64) ++ [Value.int .i64 x]).toArray ++ Builtin.zeroCells (Value.int .i64 0).cells (G - (xs.length + 1)) := ⟨_, rfl⟩
   rw [← hROW]
   have hR : ∀ j, (w.drew.alloc (.cells ROW (insRen.t 3))).cell? ⟨w.heap.size, j, none⟩ = ROW[j]? := fun j => by rw [World.cell?_alloc_at (w := w.drew) ROW _ w.heap.size j rfl]
   have hRf : ∀ j, (w.drew.alloc (.cells ROW (insRen.t 3))).frozen? ⟨w.heap.size, j, none⟩ = false := fun j => World.frozen?_alloc_at (w := w.drew) ROW _ w.heap.size j rfl
   refine ⟨w.heap.size, G, rfl, ints_of_cells (by omega) (by omega) hGn hG63 (by omega) (fun j hj => ⟨?_, hRf j⟩), .inr (by omega), by simp, hc0 _ (Chg.of_ext (((Ext.refl w).drew).alloc _))⟩
   rw [hig j hj, hR, hROW, Array.getElem?_append_left (by simp; omega)]
   simp only [List.getElem?_toArray]
   by_cases h1 : j = xs.length
   ·
    subst h1
    rw [if_neg (by omega), if_pos rfl, List.getElem?_append_right (by simp)]; simp
   ·
    rw [if_pos (by omega), List.getElem?_append_left (by simp; omega), List.getElem?_map, List.getElem?_eq_getElem (show j < xs.length by omega), getD_get (show j < xs.length by omega)]; rfl
theorem insert_i (xs : List Int) (g n c B i : Nat) (x I : Int) (w0 : World) (hI : I = (i : Int)) (O : OwnI w0 B (.slice (some ⟨g, 0, none⟩) n c) xs) (hi : i ≤ xs.length) (hl : xs.length ≤ 1000) :
  Calls Try.prog 79 #[.slice (some ⟨g, 0, none⟩) n c, .int .i64 I, .slice (some ⟨w0.heap.size, 0, none⟩) 1 1] (w0.alloc (.cells #[.int .i64 x] 3)) fun e w' =>
   ∃ g' c', e = .returned (.slice (some ⟨g', 0, none⟩) (n + 1) c') ∧ Ints w' B (.slice (some ⟨g', 0, none⟩) (n + 1) c') (insL xs i x) ∧ (g' = g ∨ w0.heap.size < g') ∧ g' < w'.heap.size ∧ Chg g (g + 1) w0 w' := by
 subst hI; exact insert_row xs g n c B i x w0 O hi hl
end Go.Proofs.Ytfbbnbpobojboaa

/- Helpers of walks: appends to a literal without room, whatever is appended. -/
namespace Go.Proofs.Ytfbbnbpobojboaa
open Go.RowKit
set_option linter.unusedVariables false
theorem Chg.setNew {lo hi : Nat} {a w : World} {p : Addr} (h : Chg lo hi a w) (hp : a.heap.size ≤ p.block) (u : Value) : Chg lo hi a (w.setCell p u) :=
  ⟨h.os, h.tape, h.output, by have := h.size; simpa using this, fun k hk hd => (Below.heap_setCell _ _ _ _ (by omega)).trans (h.block k hk hd)⟩
section
variable {w : World} {src : Value} {ys : List Int} {lo B l : Nat}
theorem run_app0O (ty : TypeId) (O : OwnI w B (.slice (some ⟨l, 0, none⟩) 0 0) []) (hB : B ≤ w.heap.size) (hs : Ints w lo src ys) :
    ∃ g r w', (Builtin.append_ #[22, 22] ty #[.slice (some ⟨l, 0, none⟩) 0 0, src]).run Try.prog w = .ok (.slice (some ⟨g, 0, none⟩) ys.length r) w' ∧ OwnI w' B (.slice (some ⟨g, 0, none⟩) ys.length r) ys ∧ Ext w w' ∧ (g = l ∨ w.heap.size ≤ g) ∧ g < w'.heap.size := by
  obtain ⟨v', w', hr, h1, h2, h3⟩ := run_app0 ⟨l, 0, none⟩ ty hs
  by_cases he : ys = []
  · subst he
    have hs' := hs
    obtain ⟨i0, hi, hz0, hz1, hz2⟩ := info_parts infoInt
    obtain ⟨a, cap, rfl, h1, h2, ⟨h3', h3⟩, h4⟩ := hs
    refine ⟨l, 0, w, ?_, O, Ext.refl _, .inl rfl, (own_lt O rfl).2⟩
    cases a with
    | none => simp [Builtin.append_, run_underlying Try.underlying22, sizeOf, typeInfo, hi, Builtin.lenOf, Builtin.firstCells, storeCells]
    | some x => simp [Builtin.append_, run_underlying Try.underlying22, sizeOf, typeInfo, hi, Builtin.lenOf, Builtin.firstCells, storeCells, loadCells, loadCellsFrom]
  · have O' := (h1.ofNe he)
    obtain ⟨g, r, rfl, hg, hg'⟩ := O'.row he
    exact ⟨g, r, w', hr, O'.lower hB, h2, .inr hg, hg'⟩

theorem step_app0O {ops : Array Oper} {o : Oper} {a : Act} {K : Act → World → Prop} {Q : Exit → Act → World → Prop} {F : Prop} (hgd : o.guard = none) (s x : Operand)
    (ho : o.op = .call { callee := .builtin .append, args := #[s, x], argTypes := #[22, 22] })
    (hs : a.eval s = .slice (some ⟨l, 0, none⟩) 0 0) (hx : a.eval x = src) (O : OwnI w B (.slice (some ⟨l, 0, none⟩) 0 0) []) (hB : B ≤ w.heap.size) (hsrc : Ints w lo src ys)
    (hK : ∀ g r w', OwnI w' B (.slice (some ⟨g, 0, none⟩) ys.length r) ys → Ext w w' → (g = l ∨ w.heap.size ≤ g) → g < w'.heap.size → K (a.put o.dst (.slice (some ⟨g, 0, none⟩) ys.length r)) w') :
    if Region.wanted o (yielded ops a.tmps) = true then Oper.wp Try.prog o a w K Q else F := by
  have hw : Region.wanted o (yielded ops a.tmps) = true := by simp [Region.wanted, hgd]
  rw [if_pos hw]
  obtain ⟨g, r, w', hr, h1, h2, h3, h4⟩ := run_app0O o.type O hB hsrc
  unfold Oper.wp execOp
  simp only [ho, resolve, invoke, builtin, Sem.run_bind, Sem.run_pure, Result.andThen_ok, List.map_toArray, List.map_cons, List.map_nil, hs, hx, hr]
  exact hK g r w' h1 h2 h3 h4
theorem wpList_app0O {ops : Array Oper} {rest : List Oper} {o : Oper} {a : Act} {Q : Exit → Act → World → Prop} (hgd : o.guard = none) (s x : Operand)
    (ho : o.op = .call { callee := .builtin .append, args := #[s, x], argTypes := #[22, 22] })
    (hs : a.eval s = .slice (some ⟨l, 0, none⟩) 0 0) (hx : a.eval x = src) (O : OwnI w B (.slice (some ⟨l, 0, none⟩) 0 0) []) (hB : B ≤ w.heap.size) (hsrc : Ints w lo src ys)
    (hK : ∀ g r w', OwnI w' B (.slice (some ⟨g, 0, none⟩) ys.length r) ys → Ext w w' → (g = l ∨ w.heap.size ≤ g) → g < w'.heap.size → wpList Try.prog ops Q rest (a.put o.dst (.slice (some ⟨g, 0, none⟩) ys.length r)) w') : wpList Try.prog ops Q (o :: rest) a w := by
  refine wpList_plain hgd fun K hK' => ?_
  obtain ⟨g, r, w', hr, h1, h2, h3, h4⟩ := run_app0O o.type O hB hsrc
  unfold Oper.wp execOp
  simp only [ho, resolve, invoke, builtin, Sem.run_bind, Sem.run_pure, Result.andThen_ok, List.map_toArray, List.map_cons, List.map_nil, hs, hx, hr]
  exact hK' _ _ (hK g r w' h1 h2 h3 h4)
end
/-- a call hands back a row of its own -/
def PIntsO (w : World) (xs : List Int) (e : Ending) (w' : World) : Prop := ∃ g r, e = .returned (.slice (some ⟨g, 0, none⟩) xs.length r) ∧ OwnI w' w.heap.size (.slice (some ⟨g, 0, none⟩) xs.length r) xs ∧ w.heap.size ≤ g ∧ g < w'.heap.size ∧ Ext w w'
end Go.Proofs.Ytfbbnbpobojboaa

/- Walks: views without a dimension, of the program. -/
namespace Go.Proofs.Ytfbbnbpobojboaa
open Go.RowKit
set_option linter.unusedVariables false
set_option maxRecDepth 100000

end Go.Proofs.Ytfbbnbpobojboaa

/- Walks: ValidView, FitsIn, BoundsOf. -/
namespace Go.Proofs.Ytfbbnbpobojboaa
open Go.RowKit
set_option linter.unusedVariables false
set_option maxRecDepth 100000


end Go.Proofs.Ytfbbnbpobojboaa

/- Walks: OffsetsOf and IsRow of the program and of the reference. -/
namespace Go.Proofs.Ytfbbnbpobojboaa
open Go.RowKit
set_option linter.unusedVariables false
set_option maxRecDepth 100000


end Go.Proofs.Ytfbbnbpobojboaa

/- Walks: rowStrides of the program. -/
namespace Go.Proofs.Ytfbbnbpobojboaa
open Go.RowKit
set_option linter.unusedVariables false
set_option maxRecDepth 100000

end Go.Proofs.Ytfbbnbpobojboaa

/- Helpers of the laws: equal lists, equal views, a number in a list. -/
namespace Go.Proofs.Ytfbbnbpobojboaa
open Go.RowKit
set_option linter.unusedVariables false
set_option maxRecDepth 100000



end Go.Proofs.Ytfbbnbpobojboaa

/- Walks: helpers of the laws. -/
namespace Go.Proofs.Ytfbbnbpobojboaa
open Go.RowKit
set_option linter.unusedVariables false
set_option maxRecDepth 100000

end Go.Proofs.Ytfbbnbpobojboaa

/- Walks: LoadView of the program and of the reference. -/
namespace Go.Proofs.Ytfbbnbpobojboaa
open Go.RowKit
set_option linter.unusedVariables false
set_option maxRecDepth 100000


theorem PInts.no {w w' : World} (h : Ext w w') : PInts w [] (.returned (.slice none 0 0)) w' :=
  ⟨_, rfl, Ints.nil _ _ _ _ (by simp) (fun _ => rfl), .inl ⟨rfl, none, 0, rfl, by simp, fun _ => rfl⟩, h⟩

end Go.Proofs.Ytfbbnbpobojboaa

/- Plain laws on memories: what is stored last stays, what is added, sums. -/
namespace Go.Proofs.Ytfbbnbpobojboaa
open Go.RowKit
set_option linter.unusedVariables false
set_option maxRecDepth 100000

/-- additions one by one -/
def addUp (mem ix vs : List Int) (k : Nat) : List Int := (List.range k).foldl (fun m i => m.set (ix.getD i 0).toNat ((m.getD (ix.getD i 0).toNat 0 + vs.getD i 0) % 256)) mem
theorem addUp_succ (mem ix vs : List Int) (k : Nat) : addUp mem ix vs (k+1) = (addUp mem ix vs k).set (ix.getD k 0).toNat (((addUp mem ix vs k).getD (ix.getD k 0).toNat 0 + vs.getD k 0) % 256) := by
  unfold addUp; rw [List.range_succ, List.foldl_append]; rfl
theorem addUp_len (mem ix vs : List Int) (k : Nat) : (addUp mem ix vs k).length = mem.length := by
  induction k with
  | zero => rfl
  | succ k ih => rw [addUp_succ, List.length_set, ih]
end Go.Proofs.Ytfbbnbpobojboaa

/- Walks: indices, ranks, rows, sums. -/
namespace Go.Proofs.Ytfbbnbpobojboaa
open Go.RowKit
set_option linter.unusedVariables false
set_option maxRecDepth 100000


theorem vw {b : Int} {s t : List Int} (h : viewB b s t = true) : s.length ≤ t.length ∧ (0 < countL s → ∀ e ∈ s, 1 ≤ e) ∧ countL s ≤ 1000000 ∧ Small s := by
  obtain ⟨h1, h2, h3, h4, h5⟩ := viewB_in h
  have h6 := shapeB_in h1
  exact ⟨by omega, h6.2.2.2.2, by omega, Small.of h1⟩
theorem sh {s : List Int} (h : shapeB s = true) : Small s ∧ (0 < countL s → ∀ e ∈ s, 1 ≤ e) ∧ countL s ≤ 1000000 := by
  have h6 := shapeB_in h
  exact ⟨Small.of h, h6.2.2.2.2, by omega⟩
/-- the first k numbers are within the extents -/
def OkTo (s r : List Int) (k : Nat) : Prop := ∀ j, j < k → 0 ≤ r.getD j 0 ∧ r.getD j 0 < s.getD j 0
theorem OkTo.zero (s r : List Int) : OkTo s r 0 := fun j h => absurd h (by omega)
theorem OkTo.succ {s r : List Int} {k : Nat} (h : OkTo s r k) {x e : Int} (hx : r.getD k 0 = x) (he : s.getD k 0 = e) (h1 : 0 ≤ x) (h2 : x < e) : OkTo s r (k+1) := fun j hj => by
  by_cases hjk : j = k
  · subst hjk; rw [hx, he]; exact ⟨h1, h2⟩
  · exact h j (by omega)
end Go.Proofs.Ytfbbnbpobojboaa

/- Walks: ranks, indices, rows, sums. -/
namespace Go.Proofs.Ytfbbnbpobojboaa
open Go.RowKit
set_option linter.unusedVariables false
set_option maxRecDepth 100000


end Go.Proofs.Ytfbbnbpobojboaa

/- Plain laws: views with their dimensions in another order. -/
namespace Go.Proofs.Ytfbbnbpobojboaa
open Go.RowKit
set_option linter.unusedVariables false
set_option maxRecDepth 100000

end Go.Proofs.Ytfbbnbpobojboaa

/- Plain laws: views without a dimension. -/
namespace Go.Proofs.Ytfbbnbpobojboaa
open Go.RowKit
set_option linter.unusedVariables false
set_option maxRecDepth 100000

end Go.Proofs.Ytfbbnbpobojboaa

/- Walks: PickDim of the program. -/
namespace Go.Proofs.Ytfbbnbpobojboaa
open Go.RowKit
set_option linter.unusedVariables false
set_option maxRecDepth 100000


def PVX (w : World) (x : VBool) (e : Ending) (w' : World) : Prop := PVWB w x.1 x.2.1 x.2.2.1 x.2.2.2 e w'
theorem pvx_eq {w w0 : World} {x : VBool} {B : Int} {S T : List Int} {o : Bool} {f : Nat} {args : Array Value} (he : x = (B, S, T, o)) (h : Calls Try.prog f args w (PVX w0 x)) : Calls Try.prog f args w (PVWB w0 B S T o) := by subst he; exact h
theorem dim_in {b : Int} {s t : List Int} {d : Int} (h : dimB b s t d = true) : viewB b s t = true ∧ 0 ≤ d ∧ d < s.length := by
  unfold dimB inB at h
  simp only [Bool.and_eq_true, decide_eq_true_eq] at h
  exact ⟨h.1, by omega, by omega⟩
end Go.Proofs.Ytfbbnbpobojboaa

/- Plain laws: other shapes of the same cells, there and back. -/
namespace Go.Proofs.Ytfbbnbpobojboaa
open Go.RowKit
set_option linter.unusedVariables false
set_option linter.unusedSimpArgs false

end Go.Proofs.Ytfbbnbpobojboaa

/- Plain laws: Reshape, of dense views too; two dimensions that are one, one that is two. -/
namespace Go.Proofs.Ytfbbnbpobojboaa
open Go.RowKit
set_option linter.unusedVariables false
set_option linter.unusedSimpArgs false
set_option maxRecDepth 100000

/-- Reshape -/
def rsV (b : Int) (s t u : List Int) : VBool :=
  if viewB b s t && (shapeB u && reshB b s t u) then (if countL u = 0 then (0, u, List.replicate u.length 0, true) else (b, u, reshS (offsL b s t) u u.length, true)) else noV
theorem zero_view {u : List Int} (hu : shapeB u = true) (hc : countL u = 0) : viewB 0 u (List.replicate u.length 0) = true :=
  (viewB_zero hc).2 ⟨hu, by simp, by omega, fun x hx => by rw [List.mem_replicate] at hx; omega⟩
theorem rs_no {b : Int} {s t u : List Int} (h : ¬ (viewB b s t = true ∧ shapeB u = true ∧ reshB b s t u = true)) : rsV b s t u = noV := by
  unfold rsV; rw [if_neg (by simpa using h)]
/-- one dimension is two -/
def splitS (s : List Int) (d : Nat) (o q : Int) : List Int := insL (s.set d o) (d+1) q
theorem insL_succ (e x : Int) (s : List Int) (i : Nat) : insL (e :: s) (i + 1) x = e :: insL s i x := by simp [insL]
theorem insL_zero (x : Int) (s : List Int) : insL s 0 x = x :: s := by simp [insL]
theorem split_len (s : List Int) (d : Nat) (o q : Int) (h : d < s.length) : (splitS s d o q).length = s.length + 1 := by unfold splitS insL; simp; omega
/-- the other way to write it -/
theorem split_ins : ∀ (s : List Int) (d : Nat) (o q : Int), d < s.length → (insL s d o).set (d+1) q = splitS s d o q
  | [], d, _, _, h => absurd h (by simp)
  | e :: s, 0, o, q, _ => by unfold splitS; rw [List.set_cons_zero, insL_succ, insL_zero, insL_zero]; rfl
  | e :: s, d+1, o, q, h => by
    unfold splitS
    rw [List.set_cons_succ, insL_succ, insL_succ, List.set_cons_succ, split_ins s d o q (by simpa using h)]; rfl

end Go.Proofs.Ytfbbnbpobojboaa

/- Walks: Reshape of the program. -/
namespace Go.Proofs.Ytfbbnbpobojboaa
open Go.RowKit
set_option linter.unusedVariables false
set_option maxRecDepth 100000


/-- the strides of a reshaped view, as far as they are told -/
def reshT (C u : List Int) (k : Nat) : List Int := reshS C u k ++ List.replicate (u.length - k) 0
theorem reshT_len (C u : List Int) (k : Nat) (h : k ≤ u.length) : (reshT C u k).length = u.length := by unfold reshT; rw [List.length_append, reshS_len, List.length_replicate]; omega
theorem reshT_set (C u : List Int) (k : Nat) (h : k < u.length) (x : Int) (hx : (if 1 < u.getD k 0 then C.getD (countL (u.drop (k+1))).toNat 0 - C.getD 0 0 else 0) = x) : (reshT C u k).set k x = reshT C u (k+1) := by
  unfold reshT
  rw [reshS_succ, hx, show u.length - k = (u.length - (k+1)) + 1 by omega, List.replicate_succ]
  rw [List.set_append_right _ _ (by rw [reshS_len]; omega), reshS_len, Nat.sub_self, List.set_cons_zero, List.append_assoc]; rfl
theorem resh_step1 {C u : List Int} {k J : Nat} {e x y : Int} (h : k < u.length) (he : u.getD k 0 = e) (h1 : 1 < e) (hJ : countL (u.drop (k+1)) = J) (hx : C.getD J 0 = x) (hy : C.getD 0 0 = y) : reshT C u (k+1) = (reshT C u k).set k (x - y) :=
  (reshT_set C u k h _ (by rw [he, if_pos h1, hJ, Int.toNat_natCast, hx, hy])).symm
theorem resh_step0 {C u : List Int} {k : Nat} {e : Int} (h : k < u.length) (he : u.getD k 0 = e) (h1 : ¬ 1 < e) : reshT C u (k+1) = reshT C u k := by
  rw [← reshT_set C u k h 0 (by rw [he, if_neg h1])]
  unfold reshT
  rw [show u.length - k = (u.length - (k+1)) + 1 by omega, List.replicate_succ]
  rw [List.set_append_right _ _ (by rw [reshS_len]; omega), reshS_len, Nat.sub_self, List.set_cons_zero]
theorem reshT_zero (C u : List Int) : reshT C u 0 = List.replicate u.length 0 := by simp [reshT, reshS]
theorem reshT_all (C u : List Int) : reshT C u u.length = reshS C u u.length := by simp [reshT]
theorem cnt_eq {w : World} {xs : List Int} {v : Value} {J : Int} {f : Nat} (hJ : countL xs = J) (h : Calls Try.prog f #[v] w fun e w' => e = .returned (.int .i64 (countL xs)) ∧ w = w') : Calls Try.prog f #[v] w fun e w' => e = .returned (.int .i64 J) ∧ w = w' := hJ ▸ h
/-- the reshaped view, of a view and a shape that are valid -/
theorem rs_val {b : Int} {s t u C T : List Int} (hv : viewB b s t = true) (hu : shapeB u = true) (hC : offsL b s t = C) (hT : reshS C u u.length = T) :
    rsV b s t u = if countL u = countL s then (if countL u = 0 then (0, u, List.replicate u.length 0, true) else if viewB b u T && sameB (offsL b u T) C then (b, u, T, true) else noV) else noV := by
  subst hC; subst hT
  unfold rsV
  rw [hv, hu]
  by_cases h1 : countL u = countL s
  · have e1 : (countL u == countL s) = true := by simpa using h1
    rw [if_pos h1]
    by_cases h0 : countL u = 0
    · have e0 : (countL u == 0) = true := by simpa using h0
      rw [if_pos h0, if_pos h0, if_pos (by unfold reshB; rw [e1, e0]; rfl)]
    · have e0 : (countL u == 0) = false := by simpa using h0
      rw [if_neg h0, if_neg h0]
      unfold reshB
      rw [e1, e0]
      cases viewB b u (reshS (offsL b s t) u u.length) && sameB (offsL b u (reshS (offsL b s t) u u.length)) (offsL b s t) <;> rfl
  · have e1 : (countL u == countL s) = false := by simpa using h1
    rw [if_neg h1, if_neg (by unfold reshB; rw [e1]; simp)]

end Go.Proofs.Ytfbbnbpobojboaa
