/- Texts of these proofs put together: Rec, Shelf, PureA, Lib, ViewD, ViewE, ViewF, PureB, ViewG, PureC, PureV, Lp, ExI, MemA, ExJ, ExD, ExG, RngA, ExK, ExL, ExM, SvA, SvB, SvC, PureW, PureX, PureY, RngB, RngC, SlA, PureZ, Rg, GenA, RgL, Kit, SvE, SvF, SvG, SvD, SvH, KitB, SvI, GenB, GenC, GenD, SvJ, LvA, BufA, KitC, KitD. No condition. -/
import Derived.Test.YtfbbnbpobojboaaM1
import Derived.Shelf.Small.Bits
import Derived.Shelf.Strconv.Itoa0
import Derived.Shelf.Sort.Plain
import Derived.Shelf.Slices.Turned
import Derived.Shelf.Slices.Reverse
import Derived.Shelf.Slices.Equal
import Derived.Ground.Names2Prog
import Derived.Shelf.Slices.CompactI
import Derived.Shelf.Slices.SearchI
import Derived.Shelf.Slices.Cells
import Derived.Shelf.Slices.In.SortNone
import Derived.Shelf.Slices.Empties2
import Derived.Test.YtfbbnbpobojboaaProg
import Derived.Lib.SlicesCompact
import Derived.Sort.OwnSortedInts
import Derived.StillTail
import Derived.Deep.DeepCutAuto
import Derived.Deep.CutBlock
import Derived.Deep.RegionHeld3
import Derived.WalkKit
import Derived.StillTailTactics
set_option linter.unusedVariables false
set_option linter.unusedSimpArgs false
/- Words for memory: slices whose elements take several cells. No condition. -/
namespace Go.Proofs.Ytfbbnbpobojboaa
open Go.RowKit

theorem flat_len {sz : Nat} : ∀ {L : List (List Value)}, (∀ c ∈ L, c.length = sz) → L.flatten.length = L.length * sz
  | [], _ => by simp
  | c :: L, h => by
    rw [List.flatten_cons, List.length_append, flat_len (fun c hc => h c (List.mem_cons_of_mem _ hc)), h c (List.mem_cons_self ..), List.length_cons, Nat.add_mul]
    omega
theorem flat_get {sz : Nat} : ∀ {L : List (List Value)}, (∀ c ∈ L, c.length = sz) → ∀ (i j : Nat) (hi : i < L.length) (hj : j < sz), L.flatten[i * sz + j]? = (L[i])[j]?
  | [], _, i, j, hi, _ => absurd hi (by simp)
  | c :: L, h, 0, j, _, hj => by
    have hc := h c (List.mem_cons_self ..)
    simp only [List.flatten_cons, Nat.zero_mul, Nat.zero_add, List.getElem_cons_zero]
    rw [List.getElem?_append_left (by omega)]
  | c :: L, h, i+1, j, hi, hj => by
    have hc := h c (List.mem_cons_self ..)
    have hi' : i < L.length := by simpa using hi
    have e : (i + 1) * sz + j = c.length + (i * sz + j) := by rw [Nat.add_mul, hc]; omega
    rw [List.flatten_cons, e, List.getElem?_append_right (by omega), Nat.add_sub_cancel_left, flat_get (fun c hc => h c (List.mem_cons_of_mem _ hc)) i j hi' hj]
    simp
theorem flat_set {sz : Nat} : ∀ {L : List (List Value)}, (∀ c ∈ L, c.length = sz) → ∀ (i j : Nat) (hi : i < L.length) (hj : j < sz) (x : Value), L.flatten.set (i * sz + j) x = (L.set i ((L[i]).set j x)).flatten
  | [], _, i, j, hi, _, _ => absurd hi (by simp)
  | c :: L, h, 0, j, _, hj, x => by
    have hc := h c (List.mem_cons_self ..)
    simp only [List.flatten_cons, Nat.zero_mul, Nat.zero_add, List.set_cons_zero, List.getElem_cons_zero]
    rw [List.set_append_left _ _ (by omega)]
  | c :: L, h, i+1, j, hi, hj, x => by
    have hc := h c (List.mem_cons_self ..)
    have hi' : i < L.length := by simpa using hi
    have e : (i + 1) * sz + j = c.length + (i * sz + j) := by rw [Nat.add_mul, hc]; omega
    rw [List.flatten_cons, e, List.set_append_right _ _ (by omega), Nat.add_sub_cancel_left, flat_set (fun c hc => h c (List.mem_cons_of_mem _ hc)) i j hi' hj x]
    simp
theorem mem_set_len {sz : Nat} {L : List (List Value)} (h : ∀ c ∈ L, c.length = sz) (i : Nat) {d : List Value} (hd : d.length = sz) : ∀ c ∈ L.set i d, c.length = sz := by
  intro c hc
  rcases List.mem_or_eq_of_mem_set hc with h' | h'
  · exact h c h'
  · rw [h', hd]

/-- an owned row whose elements take sz cells each -/
def OwnC (w : World) (base E sz : Nat) (v : Value) (L : List (List Value)) : Prop := w.ownsRow base E sz v L.length L.flatten ∧ ∀ c ∈ L, c.length = sz

section
variable {w w' : World} {base base' E sz : Nat} {v : Value} {L : List (List Value)}
theorem OwnC.nil : OwnC w base E sz (.slice none 0 0) [] := ⟨World.ownsRow_nil _ _ _ _, fun c hc => by cases hc⟩
theorem OwnC.ext (h : OwnC w base E sz v L) (hx : Ext w w') : OwnC w' base E sz v L := by
  refine ⟨⟨h.1.1, ?_⟩, h.2⟩
  rcases h.1.2 with h2 | ⟨g, cap, cur, hv, hg, hh, r⟩
  · exact .inl h2
  · exact .inr ⟨g, cap, cur, hv, hg, (hx.block g (Array.getElem?_eq_some_iff.1 hh).1).trans hh, r⟩
theorem OwnC.lower (h : OwnC w base E sz v L) (hb : base' ≤ base) : OwnC w base' E sz v L :=
  ⟨⟨h.1.1, h.1.2.imp id fun ⟨g, cap, cur, hv, hg, r⟩ => ⟨g, cap, cur, hv, Nat.le_trans hb hg, r⟩⟩, h.2⟩
theorem OwnC.kept {row : Option Nat} (h : OwnC w base E sz v L) (hg : w.grownBy w' row) (hne : v.ownBlock = none ∨ v.ownBlock ≠ row) : OwnC w' base E sz v L := ⟨World.ownsRow.kept h.1 hg hne, h.2⟩
theorem OwnC.chg {lo hi : Nat} (h : OwnC w base E sz v L) (k : Chg lo hi w w') (hb : hi ≤ base) : OwnC w' base E sz v L := by
  refine ⟨⟨h.1.1, ?_⟩, h.2⟩
  rcases h.1.2 with h2 | ⟨g, cap, cur, hv, hg, hh, r⟩
  · exact .inl h2
  · exact .inr ⟨g, cap, cur, hv, hg, (k.block g (Array.getElem?_eq_some_iff.1 hh).1 (.inr (by omega))).trans hh, r⟩
theorem OwnC.form (h : OwnC w base E sz v L) : ∃ a c, v = .slice a L.length c := by
  rcases h.1.2 with ⟨rfl, h0⟩ | ⟨g, cap, cur, rfl, _⟩
  · rw [h0]; exact ⟨_, _, rfl⟩
  · exact ⟨_, _, rfl⟩
theorem OwnC.lt (h : OwnC w base E sz v L) (hn : L ≠ []) : ∃ g c, v = .slice (some ⟨g, 0, none⟩) L.length c ∧ v.ownBlock = some g ∧ base ≤ g ∧ g < w.heap.size ∧ L.length ≤ c ∧ c ≤ maxLen := by
  rcases h.1.2 with ⟨rfl, h0⟩ | ⟨g, cap, cur, rfl, hb, hh, h1, h2, _⟩
  · exact absurd (List.eq_nil_of_length_eq_zero h0) hn
  · exact ⟨g, cap, rfl, rfl, hb, (Array.getElem?_eq_some_iff.1 hh).1, h1, h2⟩
theorem OwnC.cell {g c : Nat} (h : OwnC w base E sz (.slice (some ⟨g, 0, none⟩) L.length c) L) (i j : Nat) (hi : i < L.length) (hj : j < sz) :
    w.cell? ⟨g, i * sz + j, none⟩ = (L[i])[j]? ∧ w.frozen? ⟨g, i * sz + j, none⟩ = false := by
  refine ⟨?_, World.ownsRow.frozenAt h.1 _⟩
  rw [World.ownsRow.cellAt h.1 _ ?_, flat_get h.2 i j hi hj]
  calc i * sz + j < i * sz + sz := by omega
    _ = (i + 1) * sz := by rw [Nat.add_mul]; omega
    _ ≤ L.length * sz := Nat.mul_le_mul_right _ hi
theorem OwnC.set {g c : Nat} (h : OwnC w base E sz (.slice (some ⟨g, 0, none⟩) L.length c) L) (i j : Nat) (hi : i < L.length) (hj : j < sz) (x : Value) :
    OwnC (w.setCell ⟨g, i * sz + j, none⟩ x) base E sz (.slice (some ⟨g, 0, none⟩) L.length c) (L.set i ((L[i]).set j x)) := by
  have h1 := (World.ownsRow.stored h.1 (i * sz + j) x).1
  rw [flat_set h.2 i j hi hj] at h1
  refine ⟨by rw [List.length_set]; exact h1, mem_set_len h.2 i ?_⟩
  rw [List.length_set]; exact h.2 _ (List.getElem_mem hi)
theorem OwnC.made (w : World) (cs : Array Value) (n : Nat) (hb : base ≤ w.heap.size) (hm : L.length ≤ maxLen) (hs : cs.toList = L.flatten) (hl : ∀ c ∈ L, c.length = sz) :
    OwnC (w.alloc (.cells cs E)) base E sz (.slice (some ⟨w.heap.size, 0, none⟩) L.length L.length) L := by
  refine ⟨?_, hl⟩
  rw [← hs]
  exact World.ownsRow_lit w cs L.length hb hm (by have := congrArg List.length hs; rw [flat_len hl] at this; simpa using this)

/-- the one element that an append takes -/
theorem src_one (w : World) (cs : List Value) (hl : cs.length = sz) (h1 : ∀ u ∈ cs, u.oneCell' = true) : SrcR (w.alloc (.cells cs.toArray E)) sz (.slice (some ⟨w.heap.size, 0, none⟩) 1 1) 1 cs := by
  refine ⟨some ⟨w.heap.size, 0, none⟩, 1, rfl, (fun h => by cases h), ?_, by omega, h1⟩
  rintro ad hh j u hu
  cases hh
  have e : (⟨w.heap.size, 0, none⟩ : Addr).add j = ⟨w.heap.size, j, none⟩ := by unfold Addr.add; split <;> simp_all
  rw [e, World.cell?_alloc_new]
  simpa using hu
theorem OwnC.snoc {v' : Value} {c : List Value} (h : OwnC w base E sz v L) (hc : c.length = sz) (h' : w'.ownsRow base E sz v' (L.length + 1) (L.flatten ++ c)) : OwnC w' base E sz v' (L ++ [c]) := by
  refine ⟨?_, fun d hd => ?_⟩
  · rw [List.flatten_append, List.length_append]; simpa using h'
  · rcases List.mem_append.1 hd with hd | hd
    · exact h.2 d hd
    · simp at hd; rw [hd, hc]
end
section
variable {T E sz bytes : Nat} {z : Value} {w : World} {base : Nat} {v src : Value} {L : List (List Value)} {c : List Value}
theorem wpList_appC (hT : Try.prog.underlying T = some (.slice E)) (hI : (Try.prog.info? E).map (fun i => (i.zero, i.size, i.bytes)) = some (some z, sz, bytes)) (hzs : z.cells.size = sz) (hsz : 0 < sz)
    {ops : Array Oper} {rest : List Oper} {o : Oper} {a : Act} {Q : Exit → Act → World → Prop} (hgd : o.guard = none) (s x : Operand)
    (ho : o.op = .call { callee := .builtin .append, args := #[s, x], argTypes := #[T, T] })
    (hs : a.eval s = v) (hx : a.eval x = src) (h : OwnC w base E sz v L) (hsrc : SrcR w sz src 1 c) (h63 : L.length + 1 ≤ 4194304) (hbytes : (L.length + 1) * bytes ≤ 140737488355328) (hb : base ≤ w.heap.size)
    (hK : ∀ v' w', OwnC w' base E sz v' (L ++ [c]) → w.grownBy w' v.ownBlock → Below base w w' → (v'.ownBlock = v.ownBlock ∨ v'.ownBlock = some w.heap.size) → wpList Try.prog ops Q rest (a.put o.dst v') w') : wpList Try.prog ops Q (o :: rest) a w :=
  wpList_appR hT hI hzs hsz hgd s x ho hs hx h.1 hsrc h63 hbytes hb fun v' w' h1 h2 h3 h4 => hK v' w' (h.snoc (by have := hsrc; obtain ⟨_, _, _, _, _, h5, _⟩ := this; omega) h1) h2 h3 h4
theorem step_appC (hT : Try.prog.underlying T = some (.slice E)) (hI : (Try.prog.info? E).map (fun i => (i.zero, i.size, i.bytes)) = some (some z, sz, bytes)) (hzs : z.cells.size = sz) (hsz : 0 < sz)
    {ops : Array Oper} {o : Oper} {a : Act} {K : Act → World → Prop} {Q : Exit → Act → World → Prop} {F : Prop} (hgd : o.guard = none) (s x : Operand)
    (ho : o.op = .call { callee := .builtin .append, args := #[s, x], argTypes := #[T, T] })
    (hs : a.eval s = v) (hx : a.eval x = src) (h : OwnC w base E sz v L) (hsrc : SrcR w sz src 1 c) (h63 : L.length + 1 ≤ 4194304) (hbytes : (L.length + 1) * bytes ≤ 140737488355328) (hb : base ≤ w.heap.size)
    (hK : ∀ v' w', OwnC w' base E sz v' (L ++ [c]) → w.grownBy w' v.ownBlock → Below base w w' → (v'.ownBlock = v.ownBlock ∨ v'.ownBlock = some w.heap.size) → K (a.put o.dst v') w') :
    if Region.wanted o (yielded ops a.tmps) = true then Oper.wp Try.prog o a w K Q else F :=
  step_appR hT hI hzs hsz hgd s x ho hs hx h.1 hsrc h63 hbytes hb fun v' w' h1 h2 h3 h4 => hK v' w' (h.snoc (by have := hsrc; obtain ⟨_, _, _, _, _, h5, _⟩ := this; omega) h1) h2 h3 h4
end

end Go.Proofs.Ytfbbnbpobojboaa

/- The contracts of library functions, laid at this translation: no condition. -/
namespace Go.Proofs
open Go.Shelf
end Go.Proofs

/- Plain laws on lists of ints: ascending lists, sorted and compacted lists, lists of different numbers. -/
namespace Go.Proofs.Ytfbbnbpobojboaa

end Go.Proofs.Ytfbbnbpobojboaa

/- The library's sort, compact, contains, index and equal on lists of ints, in the words of these proofs. -/
namespace Go.Proofs.Ytfbbnbpobojboaa
open Go.RowKit Go.Sort
set_option linter.unusedVariables false
set_option maxRecDepth 100000


end Go.Proofs.Ytfbbnbpobojboaa

/- Walks: the cells of a view, told once; what two views have; places in a list; lists of different numbers. -/
namespace Go.Proofs.Ytfbbnbpobojboaa
open Go.RowKit
set_option linter.unusedVariables false
set_option maxRecDepth 100000

end Go.Proofs.Ytfbbnbpobojboaa

/- Walks: one to one views, what two views have, and the program's exported questions about them. -/
namespace Go.Proofs.Ytfbbnbpobojboaa
open Go.RowKit
set_option linter.unusedVariables false
set_option maxRecDepth 100000

end Go.Proofs.Ytfbbnbpobojboaa

/- Plain laws: the program's words on cells are the reference's. -/
namespace Go.Proofs.Ytfbbnbpobojboaa
open Go.RowKit

end Go.Proofs.Ytfbbnbpobojboaa

/- Plain laws on ranges of ints: the numbers of a range, normal forms, progressions. -/
namespace Go.Proofs.Ytfbbnbpobojboaa
set_option linter.unusedVariables false

def cntL (a b s : Int) : Nat := if 0 < s then ((b - a + s - 1) / s).toNat else ((a - b + (-s) - 1) / (-s)).toNat
/-- the numbers of a range -/
def numL (a b s : Int) : List Int := (List.range (cntL a b s)).map fun k : Nat => a + k * s
theorem numL_len (a b s : Int) : (numL a b s).length = cntL a b s := by simp [numL]
theorem numL_get (a b s : Int) (k : Nat) (h : k < (numL a b s).length) : (numL a b s)[k] = a + k * s := by simp [numL]

theorem num_step {a b s : Int} (hs : s ≠ 0) (k : Nat) : (0 < s ∧ a + k * s < b ∨ s < 0 ∧ b < a + k * s) ↔ k < cntL a b s := by
  unfold cntL
  rcases Int.lt_or_le 0 s with h | h
  · rw [if_pos h]
    have h1 := Int.le_ediv_iff_mul_le (a := (k : Int) + 1) (b := b - a + s - 1) h
    have e : ((k : Int) + 1) * s = k * s + s := by rw [Int.add_mul, Int.one_mul]
    rw [e] at h1
    omega
  · have h' : 0 < -s := by omega
    rw [if_neg (by omega)]
    have h1 := Int.le_ediv_iff_mul_le (a := (k : Int) + 1) (b := a - b + (-s) - 1) h'
    have e : ((k : Int) + 1) * (-s) = -(k * s) + -s := by rw [Int.add_mul, Int.one_mul, Int.mul_neg]
    rw [e] at h1
    omega

theorem mem_numL_pos {a b s : Int} (hs : 0 < s) (x : Int) : x ∈ numL a b s ↔ a ≤ x ∧ x < b ∧ s ∣ (x - a) := by
  simp only [numL, List.mem_map, List.mem_range]
  constructor
  · rintro ⟨k, hk, rfl⟩
    have h := (num_step (a := a) (b := b) (s := s) (by omega) k).2 hk
    have h0 : 0 ≤ (k : Int) * s := Int.mul_nonneg (by omega) (by omega)
    refine ⟨by omega, by omega, ⟨k, ?_⟩⟩
    rw [Int.mul_comm s]; omega
  · rintro ⟨h1, h2, ⟨q, hq⟩⟩
    have hq0 : 0 ≤ q := by
      rcases Int.lt_or_le q 0 with h | h
      · have := Int.mul_neg_of_pos_of_neg hs h; omega
      · exact h
    have e : ((q.toNat : Nat) : Int) = q := by omega
    have e2 : q * s = s * q := Int.mul_comm _ _
    refine ⟨q.toNat, (num_step (by omega) _).1 (.inl ⟨hs, ?_⟩), ?_⟩ <;> rw [e, e2] <;> omega

theorem mem_numL_neg {a b s : Int} (hs : s < 0) (x : Int) : x ∈ numL a b s ↔ x ≤ a ∧ b < x ∧ s ∣ (x - a) := by
  simp only [numL, List.mem_map, List.mem_range]
  constructor
  · rintro ⟨k, hk, rfl⟩
    have h := (num_step (a := a) (b := b) (s := s) (by omega) k).2 hk
    have h0 : 0 ≤ (k : Int) * (-s) := Int.mul_nonneg (by omega) (by omega)
    rw [Int.mul_neg] at h0
    refine ⟨by omega, by omega, ⟨k, ?_⟩⟩
    rw [Int.mul_comm s]; omega
  · rintro ⟨h1, h2, ⟨q, hq⟩⟩
    have hq0 : 0 ≤ q := by
      rcases Int.lt_or_le q 0 with h | h
      · have := Int.mul_pos_of_neg_of_neg hs h; omega
      · exact h
    have e : ((q.toNat : Nat) : Int) = q := by omega
    have e2 : q * s = s * q := Int.mul_comm _ _
    refine ⟨q.toNat, (num_step (by omega) _).1 (.inr ⟨hs, ?_⟩), ?_⟩ <;> rw [e, e2] <;> omega

theorem numL_up {a b s : Int} (hs : 0 < s) : (numL a b s).Pairwise (· < ·) := by
  rw [numL, List.pairwise_map]
  refine List.pairwise_lt_range.imp ?_
  intro i j hij
  have := Int.mul_lt_mul_of_pos_right (show (i : Int) < j by omega) hs
  omega
theorem numL_down {a b s : Int} (hs : s < 0) : (numL a b s).Pairwise (fun x y => y < x) := by
  rw [numL, List.pairwise_map]
  refine List.pairwise_lt_range.imp ?_
  intro i j hij
  have := Int.mul_lt_mul_of_neg_right (show (i : Int) < j by omega) hs
  omega
theorem numL_nodup {a b s : Int} (hs : s ≠ 0) : (numL a b s).Nodup := by
  rcases Int.lt_or_le 0 s with h | h
  · exact (numL_up h).imp (fun h => by omega)
  · exact (numL_down (a := a) (b := b) (show s < 0 by omega)).imp (fun h => by omega)

theorem numL_in {a b s : Int} (hs : s ≠ 0) {x : Int} (h : x ∈ numL a b s) : (0 < s → a ≤ x ∧ x < b) ∧ (s < 0 → x ≤ a ∧ b < x) := by
  constructor
  · intro h1; have := (mem_numL_pos h1 x).1 h; exact ⟨this.1, this.2.1⟩
  · intro h1; have := (mem_numL_neg h1 x).1 h; exact ⟨this.1, this.2.1⟩

/-- a range in normal form -/
def normL : List Int → Int × Int × Int
  | [] => (0, 0, 1)
  | [x] => (x, x + 1, 1)
  | x :: y :: r => (x, if y - x < 0 then (y :: r).getLast (by simp) - 1 else (y :: r).getLast (by simp) + 1, y - x)

/-- sets of numbers that go on by their own differences -/
def ApS (S : Int → Prop) : Prop := ∀ x y z u v, S x → S y → S z → S u → S v → x ≤ z + (v - u) → z + (v - u) ≤ y → S (z + (v - u))
theorem ApS.and {S T : Int → Prop} (h : ApS S) (k : ApS T) : ApS fun x => S x ∧ T x :=
  fun x y z u v hx hy hz hu hv h1 h2 => ⟨h x y z u v hx.1 hy.1 hz.1 hu.1 hv.1 h1 h2, k x y z u v hx.2 hy.2 hz.2 hu.2 hv.2 h1 h2⟩
theorem ApS.congr {S T : Int → Prop} (h : ApS S) (k : ∀ x, S x ↔ T x) : ApS T :=
  fun x y z u v hx hy hz hu hv h1 h2 => (k _).1 (h x y z u v ((k _).2 hx) ((k _).2 hy) ((k _).2 hz) ((k _).2 hu) ((k _).2 hv) h1 h2)
end Go.Proofs.Ytfbbnbpobojboaa

/- Plain laws: repeated cells, gaps between cells, later and earlier cells. -/
namespace Go.Proofs.Ytfbbnbpobojboaa
open Go.RowKit
set_option linter.unusedVariables false

end Go.Proofs.Ytfbbnbpobojboaa

/- Plain laws: products of extents, ranks of indices, other shapes of the same cells. -/
namespace Go.Proofs.Ytfbbnbpobojboaa
open Go.RowKit
set_option linter.unusedVariables false

/-- the product of extents, unbounded -/
def prodL (xs : List Int) : Int := xs.foldr (· * ·) 1
theorem prodL_cons (x : Int) (xs : List Int) : prodL (x :: xs) = x * prodL xs := rfl
theorem prodL_append (xs ys : List Int) : prodL (xs ++ ys) = prodL xs * prodL ys := by
  induction xs with
  | nil => simp [prodL]
  | cons x xs ih => rw [List.cons_append, prodL_cons, ih, prodL_cons, Int.mul_assoc]
theorem prodL_pos {xs : List Int} (h : ∀ e ∈ xs, 1 ≤ e) : 1 ≤ prodL xs := by
  induction xs with
  | nil => simp [prodL]
  | cons x xs ih =>
    have h1 := h x (List.mem_cons_self ..)
    have h2 := ih (fun e he => h e (List.mem_cons_of_mem _ he))
    rw [prodL_cons]
    have := Int.mul_le_mul h1 h2 (by omega) (by omega)
    simpa using this
theorem prodL_nonneg {xs : List Int} (h : ∀ e ∈ xs, 0 ≤ e) : 0 ≤ prodL xs := by
  induction xs with
  | nil => simp [prodL]
  | cons x xs ih => rw [prodL_cons]; exact Int.mul_nonneg (h x (List.mem_cons_self ..)) (ih (fun e he => h e (List.mem_cons_of_mem _ he)))

/-- a few extents, none of them great -/
def Small (xs : List Int) : Prop := xs.length ≤ 4 ∧ ∀ e ∈ xs, 0 ≤ e ∧ e ≤ 60
theorem Small.of {xs : List Int} (h : shapeB xs = true) : Small xs := ⟨(shapeB_in h).1, (shapeB_in h).2.1⟩
theorem Small.drop {xs : List Int} (h : Small xs) (k : Nat) : Small (xs.drop k) := ⟨by have := h.1; simp; omega, fun e he => h.2 e (List.mem_of_mem_drop he)⟩
theorem Small.take {xs : List Int} (h : Small xs) (k : Nat) : Small (xs.take k) := ⟨by have := h.1; simp; omega, fun e he => h.2 e (List.mem_of_mem_take he)⟩
theorem Small.count {xs : List Int} (h : Small xs) : countL xs = prodL xs ∧ 0 ≤ countL xs ∧ countL xs ≤ 12960000 ∧ (0 < countL xs → ∀ e ∈ xs, 1 ≤ e) := by
  have := countL_zero_or h.1 h.2
  exact ⟨this.2.2.2, this.1, this.2.1, this.2.2.1⟩
theorem prodL_split (xs : List Int) (i : Nat) (h : i < xs.length) : prodL xs = prodL (xs.take i) * (xs[i] * prodL (xs.drop (i+1))) := by
  conv => lhs; rw [← List.take_append_drop i xs, prodL_append, List.drop_eq_getElem_cons h, prodL_cons]
end Go.Proofs.Ytfbbnbpobojboaa

/- Plain laws on views: indices in order, the cells of indices, ranks. -/
namespace Go.Proofs.Ytfbbnbpobojboaa
open Go.RowKit
set_option linter.unusedVariables false
set_option maxRecDepth 100000

/-- the cell of an index, unbounded -/
def dotC (b : Int) : List Int → List Int → Int
  | x :: xs, t :: ts => x * t + dotC b xs ts
  | _, _ => b
theorem dotC_add : ∀ (b c : Int) (xs ts : List Int), dotC (b + c) xs ts = dotC b xs ts + c
  | b, c, [], ts => by cases ts <;> rfl
  | b, c, x :: xs, [] => rfl
  | b, c, x :: xs, t :: ts => by simp only [dotC]; rw [dotC_add b c xs ts]; omega
theorem mul_bd {x t M : Int} (h0 : 0 ≤ x) (h1 : x ≤ 60) (hM : 0 ≤ M) (h2 : -M ≤ t) (h3 : t ≤ M) : -(60 * M) ≤ x * t ∧ x * t ≤ 60 * M := by
  have a1 := Int.mul_le_mul_of_nonneg_left h3 h0
  have a2 := Int.mul_le_mul_of_nonneg_left h2 h0
  have a3 := Int.mul_le_mul_of_nonneg_right h1 hM
  rw [Int.mul_neg] at a2
  omega
theorem dot_eq (xs : List Int) : ∀ (ts : List Int) (a : Int), (∀ x ∈ xs, 0 ≤ x ∧ x ≤ 60) → (∀ t ∈ ts, -1000000 ≤ t ∧ t ≤ 1000000) → -(1000000000 - 60000000 * (xs.length : Int)) ≤ a → a ≤ 1000000000 - 60000000 * (xs.length : Int) →
    (xs.zip ts).foldl (fun a p => wrap64 (a + wrap64 (p.1 * p.2))) a = dotC a xs ts := by
  induction xs with
  | nil => intro ts a _ _ _ _; cases ts <;> rfl
  | cons x xs ih =>
    intro ts a hx ht h1 h2
    cases ts with
    | nil => rfl
    | cons t ts =>
      obtain ⟨x0, x1⟩ := hx x (List.mem_cons_self ..)
      obtain ⟨t0, t1⟩ := ht t (List.mem_cons_self ..)
      have hb := mul_bd x0 x1 (show (0 : Int) ≤ 1000000 by omega) t0 t1
      rw [List.length_cons] at h1 h2
      have hl : ((xs.length + 1 : Nat) : Int) = (xs.length : Int) + 1 := by omega
      rw [hl] at h1 h2
      have h0 : (0 : Int) ≤ (xs.length : Int) := by omega
      generalize (xs.length : Int) = L at *
      have w1 : wrap64 (x * t) = x * t := IntWalk.wrap64_in _ ⟨by omega, by omega⟩
      have w2 : wrap64 (a + x * t) = a + x * t := IntWalk.wrap64_in _ ⟨by omega, by omega⟩
      rw [List.zip_cons_cons, List.foldl_cons]
      simp only [w1, w2]
      rw [ih ts (a + x * t) (fun q hq => hx q (List.mem_cons_of_mem _ hq)) (fun q hq => ht q (List.mem_cons_of_mem _ hq)) (by omega) (by omega), dotC_add, dotC]
      omega
/-- strides and a base that are not great -/
def Mild (b : Int) (ts : List Int) : Prop := (-700000000 ≤ b ∧ b ≤ 700000000) ∧ ∀ t ∈ ts, -1000000 ≤ t ∧ t ≤ 1000000
theorem dotL_eq {b : Int} {xs ts : List Int} (hl : xs.length ≤ 4) (hx : ∀ x ∈ xs, 0 ≤ x ∧ x ≤ 60) (hm : Mild b ts) : dotL b xs ts = dotC b xs ts :=
  dot_eq xs ts b hx hm.2 (by have := hm.1; omega) (by have := hm.1; omega)

theorem unrL_cons (e : Int) (s : List Int) (k : Int) : unrL (e :: s) k = ((unrL s k).2 % e :: (unrL s k).1, (unrL s k).2 / e) := rfl
theorem unr_split : ∀ (s : List Int), (∀ e ∈ s, 1 ≤ e) → ∀ i j : Int, 0 ≤ j → j < prodL s → unrL s (i * prodL s + j) = ((unrL s j).1, i)
  | [], _, i, j, h0, h1 => by
    simp [prodL] at h1
    have : j = 0 := by omega
    subst this
    simp [unrL, prodL]
  | e :: s, hp, i, j, h0, h1 => by
    have he := hp e (List.mem_cons_self ..)
    have hs := fun q hq => hp q (List.mem_cons_of_mem e hq)
    have hP := prodL_pos hs
    rw [prodL_cons] at h1 ⊢
    have d1 := Int.mul_ediv_add_emod j (prodL s)
    have d2 := Int.emod_nonneg j (show prodL s ≠ 0 by omega)
    have d3 := Int.emod_lt_of_pos j (show 0 < prodL s by omega)
    have d4 : 0 ≤ j / prodL s := Int.ediv_nonneg h0 (by omega)
    have d5 : j / prodL s < e := Int.ediv_lt_of_lt_mul (by omega) (by rw [Int.mul_comm] at h1; rwa [Int.mul_comm])
    have k1 : i * (e * prodL s) + j = (i * e + j / prodL s) * prodL s + j % prodL s := by
      rw [Int.add_mul, Int.mul_assoc]
      rw [Int.mul_comm (prodL s)] at d1
      omega
    have k2 : j = (j / prodL s) * prodL s + j % prodL s := by rw [Int.mul_comm]; omega
    rw [unrL_cons, unrL_cons, k1, unr_split s hs _ _ d2 d3]
    have k3 := unr_split s hs (j / prodL s) (j % prodL s) d2 d3
    rw [← k2] at k3
    rw [k3]
    have m1 : (i * e + j / prodL s) % e = j / prodL s := by rw [Int.add_comm, Int.add_mul_emod_self_right, Int.emod_eq_of_lt d4 d5]
    have m2 : (i * e + j / prodL s) / e = i := by rw [Int.add_comm, Int.add_mul_ediv_right _ _ (by omega), Int.ediv_eq_zero_of_lt d4 d5]; omega
    have m3 : (j / prodL s) % e = j / prodL s := Int.emod_eq_of_lt d4 d5
    rw [m1, m2, m3]

/-- is it an index of a shape? -/
def IxOf : List Int → List Int → Prop
  | [], [] => True
  | e :: s, x :: r => (0 ≤ x ∧ x < e) ∧ IxOf s r
  | _, _ => False
theorem IxOf.len : ∀ {s r : List Int}, IxOf s r → r.length = s.length
  | [], [], _ => rfl
  | e :: s, x :: r, h => by simp [IxOf.len h.2]
  | [], x :: r, h => h.elim
  | e :: s, [], h => h.elim
theorem IxOf.pos : ∀ {s r : List Int}, IxOf s r → ∀ e ∈ s, 1 ≤ e
  | [], _, _ => by simp
  | e :: s, x :: r, h => by
    intro q hq
    rcases List.mem_cons.1 hq with rfl | hq
    · have := h.1; omega
    · exact IxOf.pos h.2 q hq
  | e :: s, [], h => h.elim
theorem IxOf.small : ∀ {s r : List Int}, IxOf s r → (∀ e ∈ s, e ≤ 60) → ∀ x ∈ r, 0 ≤ x ∧ x ≤ 60
  | [], [], _, _ => by simp
  | e :: s, x :: r, h, hs => by
    intro q hq
    rcases List.mem_cons.1 hq with rfl | hq
    · have := h.1; have := hs e (List.mem_cons_self ..); omega
    · exact IxOf.small h.2 (fun q hq => hs q (List.mem_cons_of_mem _ hq)) q hq
  | [], x :: r, h, _ => h.elim
  | e :: s, [], h, _ => h.elim
/-- the index of a rank -/
theorem ix_unr : ∀ (s : List Int), (∀ e ∈ s, 1 ≤ e) → ∀ k : Int, IxOf s (unrL s k).1
  | [], _, k => trivial
  | e :: s, hp, k => by
    rw [unrL_cons]
    have he := hp e (List.mem_cons_self ..)
    exact ⟨⟨Int.emod_nonneg _ (by omega), Int.emod_lt_of_pos _ (by omega)⟩, ix_unr s (fun q hq => hp q (List.mem_cons_of_mem _ hq)) k⟩
/-- all indices of a shape, in order -/
def idxR : List Int → List (List Int)
  | [] => [[]]
  | e :: s => (List.range e.toNat).flatMap fun i : Nat => (idxR s).map fun r => (i : Int) :: r
theorem range_mul (n p : Nat) : List.range (n * p) = (List.range n).flatMap fun i => (List.range p).map fun j => i * p + j := by
  induction n with
  | zero => simp
  | succ n ih =>
    rw [Nat.succ_mul, List.range_add, ih, List.range_succ, List.flatMap_append]
    simp
theorem flatMap_same {β : Type} {l : List Nat} {f g : Nat → List β} (h : ∀ i ∈ l, f i = g i) : l.flatMap f = l.flatMap g := by
  induction l with
  | nil => rfl
  | cons i l ih => rw [List.flatMap_cons, List.flatMap_cons, h i (List.mem_cons_self ..), ih fun j hj => h j (List.mem_cons_of_mem _ hj)]
theorem idx_eq : ∀ (s : List Int), (∀ e ∈ s, 1 ≤ e) → (List.range (prodL s).toNat).map (fun k : Nat => (unrL s k).1) = idxR s
  | [], _ => by simp [prodL, idxR, unrL, List.range_succ]
  | e :: s, hp => by
    have hs := fun q hq => hp q (List.mem_cons_of_mem e hq)
    have he := hp e (List.mem_cons_self ..)
    have hP := prodL_pos hs
    have ih := idx_eq s hs
    have hn : (prodL (e :: s)).toNat = e.toNat * (prodL s).toNat := by
      rw [prodL_cons, Int.toNat_mul (by omega) (by omega)]
    rw [hn, range_mul, List.map_flatMap, idxR]
    refine flatMap_same fun i hi => ?_
    rw [List.mem_range] at hi
    rw [← ih, List.map_map, List.map_map]
    refine List.map_congr_left fun j hj => ?_
    rw [List.mem_range] at hj
    simp only [Function.comp]
    have hc : ((i * (prodL s).toNat + j : Nat) : Int) = (i : Int) * prodL s + (j : Int) := by
      rw [Int.natCast_add, Int.natCast_mul, Int.toNat_of_nonneg (by omega)]
    rw [hc, unrL_cons, unr_split s hs _ _ (by omega) (by omega)]
    simp only
    rw [Int.emod_eq_of_lt (by omega) (by omega)]
theorem mem_idxR : ∀ (s r : List Int), r ∈ idxR s ↔ IxOf s r
  | [], r => by cases r <;> simp [idxR, IxOf]
  | e :: s, [] => by simp [idxR, IxOf]
  | e :: s, x :: r => by
    simp only [idxR, List.mem_flatMap, List.mem_range, List.mem_map, List.cons.injEq, IxOf]
    constructor
    · rintro ⟨i, hi, r', hr, rfl, rfl⟩
      exact ⟨by omega, (mem_idxR s r').1 hr⟩
    · rintro ⟨h1, h2⟩
      exact ⟨x.toNat, by omega, r, (mem_idxR s r).2 h2, by omega, rfl⟩
end Go.Proofs.Ytfbbnbpobojboaa

/- Words for loops that append to a row of their own beside a list that they read. No condition. -/
namespace Go.Proofs.Ytfbbnbpobojboaa
open Go.RowKit
set_option linter.unusedVariables false

theorem Ext.frz {w w' : World} (h : Ext w w') {b o : Nat} {f : Bool} (hb : b < w.heap.size) (hf : w.frozen? ⟨b, o, none⟩ = f) : w'.frozen? ⟨b, o, none⟩ = f := (h.frule b o hb).trans hf

/-- the row v of the call's own, blocks from B on, reads ys; the list u, which is only read, lies apart from it -/
structure Beside (B : Nat) (w0 wr : World) (v : Value) (ys : List Int) (u : Value) (xs : List Int) : Prop where
  own : OwnI wr B v ys
  bel : Below B w0 wr
  ints : Ints wr 0 u xs
  size : B ≤ wr.heap.size
  sep : xs ≠ [] → ∀ b off n c, u = .slice (some ⟨b, off, none⟩) n c → v.ownBlock ≠ some b

theorem Beside.start {w1 w2 : World} {u : Value} {xs : List Int} {lo : Nat} (hx : Ext (w1.alloc (.cells #[] 3)) w2) (hi : Ints w2 lo u xs) (hl : w1.heap.size < lo) :
    Beside w1.heap.size w1 w2 (.slice (some ⟨w1.heap.size, 0, none⟩) 0 0) [] u xs := by
  have hx' : Ext w1 w2 := Ext.trans ((Ext.refl _).alloc _) hx
  refine ⟨(OwnI.lit0 w1 w1.heap.size (Nat.le_refl _)).ext hx, hx', hi.lower (Nat.zero_le _), hx'.size, fun hn b off n c hu => ?_⟩
  subst hu
  obtain ⟨b', off', h4, h5, _⟩ := hi.blk hn
  cases h4
  intro h; cases h; simp at h5; omega
theorem Beside.app {B : Nat} {w0 wr w3 : World} {v v' u : Value} {ys ys' xs : List Int} (h : Beside B w0 wr v ys u xs) (o : Obj) (ho : OwnI w3 B v' ys') (hg : (wr.alloc o).grownBy w3 v.ownBlock)
    (hb : Below B (wr.alloc o) w3) (hv : v'.ownBlock = v.ownBlock ∨ v'.ownBlock = some (wr.alloc o).heap.size) : Beside B w0 w3 v' ys' u xs := by
  have hz := hb.size
  have hs := h.size
  simp at hz
  have hi := h.ints.ext ((Ext.refl wr).alloc o)
  obtain ⟨a, c, rfl⟩ := hi.form
  refine ⟨ho, (h.bel.alloc h.size o).trans hb, hi.keepG hg (fun b off e hn => ?_), by omega, fun hn b off n c e => ?_⟩
  · subst e; exact h.sep hn b off _ _ rfl
  · cases e
    rcases hv with hv | hv
    · rw [hv]; exact h.sep hn b off _ _ rfl
    · rw [hv]
      obtain ⟨b'', off'', e3, _, e4⟩ := h.ints.blk hn
      cases e3; simp; omega
theorem Beside.ext {B : Nat} {w0 wr w3 : World} {v u : Value} {ys xs : List Int} (h : Beside B w0 wr v ys u xs) (hx : Ext wr w3) : Beside B w0 w3 v ys u xs :=
  ⟨h.own.ext hx, Below.trans h.bel (Below.mono hx h.size), h.ints.ext hx, Nat.le_trans h.size hx.size, h.sep⟩

theorem Ints.drop {w : World} {lo : Nat} {a : Option Addr} {n c : Nat} {xs : List Int} (h : Ints w lo (.slice a n c) xs) (k : Nat) (hk : k ≤ n) : Ints w lo (.slice (if c = k then a else a.map (·.add k)) (n - k) (c - k)) (xs.drop k) := by
  obtain ⟨a', cap, hv, h1, h2, ⟨h3, h3'⟩, h4⟩ := h
  cases hv
  have hl : (xs.drop k).length = xs.length - k := by simp
  refine ⟨_, c - k, by rw [hl], by omega, by omega, ⟨by omega, fun e => ?_⟩, fun i hi => ?_⟩
  · by_cases hc : c = k
    · omega
    · rw [if_neg hc] at e
      cases a with
      | none => have := h3' rfl; omega
      | some ad => simp at e
  · obtain ⟨b, off, rfl, hb, hc, hf⟩ := h4 (k + i) (by omega)
    rw [if_neg (by omega)]
    have e : (⟨b, off, none⟩ : Addr).add k = ⟨b, off + k, none⟩ := by unfold Addr.add; split <;> simp_all
    refine ⟨b, off + k, by rw [Option.map_some, e], hb, ?_, by rw [Nat.add_assoc]; exact hf⟩
    rw [Nat.add_assoc, hc]
    simp [show k + i < xs.length by omega]

theorem PInts.of {w w' : World} {lo base : Nat} {xs : List Int} {v : Value} (h : OwnZ w' base v xs) (hi : Ints w' lo v xs) (hb : w.heap.size ≤ base) (hx : Ext w w') : PInts w xs (.returned v) w' := PInts.mkz h hb hi.len hx

theorem mk_ints (n : Nat) (hn : n ≤ 4194304) : ∀ w : World, (Instr.makeSlice 22 (.int .i64 (n : Int)) (.int .i64 (n : Int))).run Try.prog w = .ok (.slice (some ⟨w.heap.size, 0, none⟩) n n) (w.alloc (.cells (madeCells #[Value.int .i64 0] n) 3)) := by
  intro w
  obtain ⟨i0, hi, hz0, hz1, hz2⟩ := info_parts infoInt
  have := run_makeSlice (P := Try.prog) (w := w) 22 3 i0 (.int .i64 0) Try.underlying22 hi hz0 .i64 .i64 n n (by omega) (Int.le_refl _) (by rw [hz1]; simp; omega) (by rw [hz2]; omega) (by omega)
  simpa [hz1, Value.cells] using this
theorem OwnI.made (w : World) (base n : Nat) (hb : base ≤ w.heap.size) (hn : n ≤ 4194304) : OwnI (w.alloc (.cells (madeCells #[Value.int .i64 0] n) 3)) base (.slice (some ⟨w.heap.size, 0, none⟩) n n) (List.replicate n 0) := by
  have := World.ownsRow_lit (e := 3) (size := 1) w (madeCells #[Value.int .i64 0] n) n hb (by unfold maxLen; omega) (by simp [madeCells])
  unfold OwnI
  rw [made_ints] at this
  simpa using this

end Go.Proofs.Ytfbbnbpobojboaa

/- Walks: WayOf of the program and of the reference. -/
namespace Go.Proofs.Ytfbbnbpobojboaa
open Go.RowKit
set_option linter.unusedVariables false
set_option maxRecDepth 100000

end Go.Proofs.Ytfbbnbpobojboaa

/- Walks: values that are loaded from and stored in memories, of the program and of the reference. -/
namespace Go.Proofs.Ytfbbnbpobojboaa
open Go.RowKit
set_option linter.unusedVariables false
set_option maxRecDepth 100000

/-- a list after the first k stores -/
def putUp (mem ix vs : List Int) (k : Nat) : List Int := (List.range k).foldl (fun m i => m.set (ix.getD i 0).toNat (vs.getD i 0)) mem
theorem putUp_succ (mem ix vs : List Int) (k : Nat) : putUp mem ix vs (k+1) = (putUp mem ix vs k).set (ix.getD k 0).toNat (vs.getD k 0) := by
  unfold putUp; rw [List.range_succ, List.foldl_append]; rfl
theorem putUp_len (mem ix vs : List Int) (k : Nat) : (putUp mem ix vs k).length = mem.length := by
  induction k with
  | zero => rfl
  | succ k ih => rw [putUp_succ, List.length_set, ih]
theorem OwnI.row {w : World} {base : Nat} {v : Value} {xs : List Int} (h : OwnI w base v xs) (hn : xs ≠ []) : ∃ g cap, v = .slice (some ⟨g, 0, none⟩) xs.length cap ∧ base ≤ g ∧ g < w.heap.size := by
  rcases h.2 with ⟨rfl, h0⟩ | ⟨g, cap, cur, rfl, hb, hg, _⟩
  · exact absurd (List.eq_nil_of_length_eq_zero h0) hn
  · exact ⟨g, cap, rfl, hb, (Array.getElem?_eq_some_iff.1 hg).1⟩

theorem OwnZ.ofNe {w : World} {base : Nat} {v : Value} {xs : List Int} (h : OwnZ w base v xs) (hn : xs ≠ []) : OwnI w base v xs := h.elim (fun h => absurd h.1 hn) id

end Go.Proofs.Ytfbbnbpobojboaa

/- Walks: SwapViews of the program and of the reference. -/
namespace Go.Proofs.Ytfbbnbpobojboaa
open Go.RowKit
set_option linter.unusedVariables false
set_option maxRecDepth 100000

/-- a call hands back a new list and whether it could be made -/
def PIntsB (w : World) (xs : List Int) (b : Bool) (e : Ending) (w' : World) : Prop := ∃ v, e = .returned (.tuple #[v, .bool b]) ∧ Ints w' w.heap.size v xs ∧ OwnZ w' w.heap.size v xs ∧ Ext w w'
theorem PIntsB.no {w w' : World} (h : Ext w w') : PIntsB w [] false (.returned (.tuple #[.slice none 0 0, .bool false])) w' :=
  ⟨_, rfl, Ints.nil _ _ _ _ (by simp) (fun _ => rfl), .inl ⟨rfl, none, 0, rfl, by simp, fun _ => rfl⟩, h⟩
theorem PIntsB.yes {w w' : World} {lo base : Nat} {xs : List Int} {v : Value} (h : OwnZ w' base v xs) (hi : Ints w' lo v xs) (hb : w.heap.size ≤ base) (hx : Ext w w') : PIntsB w xs true (.returned (.tuple #[v, .bool true])) w' :=
  ⟨v, rfl, (h.lower hb).ints hi.len, h.lower hb, hx⟩
end Go.Proofs.Ytfbbnbpobojboaa

/- Walks: CellsOf and OverlapOf of the program and of the reference. -/
namespace Go.Proofs.Ytfbbnbpobojboaa
open Go.RowKit
set_option linter.unusedVariables false
set_option maxRecDepth 100000

end Go.Proofs.Ytfbbnbpobojboaa

/- Walks: normal forms of ranges, LineOf of the program and of the reference, comparison of ranges. -/
namespace Go.Proofs.Ytfbbnbpobojboaa
open Go.RowKit
set_option linter.unusedVariables false
set_option maxRecDepth 100000

theorem Ints.head {w : World} {lo : Nat} {v : Value} {xs : List Int} (h : Ints w lo v xs) (hn : 0 < xs.length) : ∃ b off c, v = .slice (some ⟨b, off, none⟩) xs.length c ∧ w.cell? ⟨b, off, none⟩ = some (.int .i64 (xs.getD 0 0)) := by
  obtain ⟨a, cap, rfl, _, _, _, h4⟩ := h
  obtain ⟨b, off, rfl, _, hc, _⟩ := h4 0 hn
  exact ⟨b, off, cap, rfl, hc⟩

set_option maxHeartbeats 3200000 in
theorem normal_c (xs : List Int) (v : Value) (w : World) (lo : Nat) (hv : Ints w lo v xs) (hb : ∀ x ∈ xs, -1000000 ≤ x ∧ x ≤ 1000000) :
    Calls Try.prog 174 #[v] w (fun e w' => e = .returned (.agg #[.int .i64 (normL xs).1, .int .i64 (normL xs).2.1, .int .i64 (normL xs).2.2]) ∧ Ext w w') := by
  rcases xs with _ | ⟨x, _ | ⟨y, r⟩⟩
  · obtain ⟨a, cap, rfl, _⟩ := hv
    go_enter Try.func174, Try.ntmps174
    go_wp2_with fail
    refine bodyPost_ret (v := .agg #[.int .i64 (0), .int .i64 (0), .int .i64 (1)]) (by simp only [results, Try.results174]; go_simp) rfl ⟨?_, (by repeat (first | exact Ext.refl _ | assumption | apply Ext.drewN | apply Ext.drew | apply Ext.alloc | (refine Ext.setCell ?_ (by simp) _)))⟩
    rfl
  · obtain ⟨b, off, c, rfl, hcell⟩ := hv.head (by simp)
    have hx := hb x (List.mem_cons_self ..)
    have hnn := World.new_ne _ _ hcell
    have e1 : IntKind.i64.wrap (x + 1) = x + 1 := IntWalk.i64_in _ (by omega)
    simp at hcell
    go_enter Try.func174, Try.ntmps174
    go_wp2_with fail
    go_region_held3 (fun w' => w'.cell? ⟨b, off, none⟩ = some (.int .i64 x)) (go_keep) (fail)
    go_wp2_with fail
    refine bodyPost_ret (v := .agg #[.int .i64 (x), .int .i64 (x + 1), .int .i64 (1)]) (by simp only [results, Try.results174]; go_simp) rfl ⟨?_, (by repeat (first | exact Ext.refl _ | assumption | apply Ext.drewN | apply Ext.drew | apply Ext.alloc | (refine Ext.setCell ?_ (by simp) _)))⟩
    rfl
  · obtain ⟨a, c, hv', hlc, hcm, ⟨hlen, _⟩, hc⟩ := hv
    subst hv'
    obtain ⟨b, off, rfl, _, hcell, _⟩ := hc 0 (by simp)
    obtain ⟨_, _, hh, _, hcell1, _⟩ := hc 1 (by simp)
    cases hh
    obtain ⟨_, _, hh, _, hcell2, _⟩ := hc (r.length + 1) (by simp)
    cases hh
    have hx := hb x (List.mem_cons_self ..)
    have hy := hb y (List.mem_cons_of_mem _ (List.mem_cons_self ..))
    have hz := hb _ (List.mem_cons_of_mem _ (List.getLast_mem (l := y :: r) (by simp)))
    have hg : (x :: y :: r).getD (r.length + 1) 0 = (y :: r).getLast (by simp) := by rw [List.getLast_eq_getElem]; simp
    rw [hg] at hcell2
    have hll : (x :: y :: r).length = r.length + 2 := by simp
    have hN : normL (x :: y :: r) = (x, if y - x < 0 then (y :: r).getLast (by simp) - 1 else (y :: r).getLast (by simp) + 1, y - x) := rfl
    generalize (y :: r).getLast (by simp) = z at *
    replace hN := Lib.hid hN
    have hn2 : 2 ≤ (x :: y :: r).length := by omega
    rw [show r.length + 1 = (x :: y :: r).length - 1 by omega] at hcell2
    generalize (x :: y :: r).length = n at *
    simp at hcell hcell1
    have hnn := World.new_ne _ _ hcell
    have hnn : w.heap.size ≠ b := hnn
    have e1 : IntKind.i64.wrap (z + 1) = z + 1 := IntWalk.i64_in _ (by omega)
    have e2 : IntKind.i64.wrap (y - x) = y - x := IntWalk.i64_in _ (by omega)
    have e3 : IntKind.i64.wrap ((n : Int) - 1) = (n : Int) - 1 := IntWalk.i64_in _ (by omega)
    have e4 : ((n : Int) - 1).toNat = n - 1 := by omega
    have e5 : (0 : Int) ≤ (n : Int) - 1 := by omega
    have e6 : (n : Int) - 1 < n := by omega
    have e7 : (0 : Int) < n := by omega
    have e8 : (1 : Int) < n := by omega
    have e9 : (1 : Int) ≤ n := by omega
    have e10 : 0 < n := by omega
    have e11 : 1 ≤ n := by omega
    have e12 : 1 < n := by omega
    clear hc hg hll hb hcm hlen hlc hn2
    obtain ⟨hz1, hz2⟩ := hz
    obtain ⟨hx1, hx2⟩ := hx
    obtain ⟨hy1, hy2⟩ := hy
    by_cases hs : y - x < 0
    · have hN' := Lib.hid (show normL (x :: y :: r) = (x, z - 1, y - x) by rw [hN.out, if_pos hs])
      go_enter Try.func174, Try.ntmps174
      go_wp2_with fail
      go_region_held3 (fun w' => w'.cell? ⟨b, off, none⟩ = some (.int .i64 x) ∧ w'.cell? ⟨b, off + 1, none⟩ = some (.int .i64 y) ∧ w'.cell? ⟨b, off + (n - 1), none⟩ = some (.int .i64 z)) (go_keep) (fail)
      go_wp2_with fail
      refine bodyPost_ret (v := .agg #[.int .i64 (x), .int .i64 (z - 1), .int .i64 (y - x)]) (by simp only [results, Try.results174]; go_simp) rfl ⟨?_, (by repeat (first | exact Ext.refl _ | assumption | apply Ext.drewN | apply Ext.drew | apply Ext.alloc | (refine Ext.setCell ?_ (by simp) _)))⟩
      rw [hN'.out]
    · have hN' := Lib.hid (show normL (x :: y :: r) = (x, z + 1, y - x) by rw [hN.out, if_neg hs])
      go_enter Try.func174, Try.ntmps174
      go_wp2_with fail
      go_region_held3 (fun w' => w'.cell? ⟨b, off, none⟩ = some (.int .i64 x) ∧ w'.cell? ⟨b, off + 1, none⟩ = some (.int .i64 y) ∧ w'.cell? ⟨b, off + (n - 1), none⟩ = some (.int .i64 z)) (go_keep) (fail)
      go_wp2_with fail
      refine bodyPost_ret (v := .agg #[.int .i64 (x), .int .i64 (z + 1), .int .i64 (y - x)]) (by simp only [results, Try.results174]; go_simp) rfl ⟨?_, (by repeat (first | exact Ext.refl _ | assumption | apply Ext.drewN | apply Ext.drew | apply Ext.alloc | (refine Ext.setCell ?_ (by simp) _)))⟩
      rw [hN'.out]

end Go.Proofs.Ytfbbnbpobojboaa

/- Walks: valid ranges and the numbers of a range, of the program and of the reference. -/
namespace Go.Proofs.Ytfbbnbpobojboaa
open Go.RowKit
set_option linter.unusedVariables false
set_option maxRecDepth 100000

theorem ret_b {x y : Bool} (h : x = y) : Ending.returned (.bool x) = .returned (.bool y) := by rw [h]

theorem cntL_le {a b s : Int} (h1 : -1000 ≤ a ∧ a ≤ 1000) (h2 : -1000 ≤ b ∧ b ≤ 1000) (h3 : s ≠ 0) : cntL a b s ≤ 2000 := by
 rcases Nat.lt_or_ge 2000 (cntL a b s) with h | h
 ·
  exfalso
  have hk := (num_step (a := a) (b := b) h3 2000).2 h
  rcases hk with ⟨hs, hk⟩ | ⟨hs, hk⟩
  ·
   have := Int.mul_le_mul_of_nonneg_left (show (1 : Int) ≤ s by omega) (show (0 : Int) ≤ 2000 by omega)
   simp at hk this; omega
  ·
   have := Int.mul_le_mul_of_nonneg_left (show s ≤ (-1 : Int) by omega) (show (0 : Int) ≤ 2000 by omega)
   simp at hk this; omega
 ·
  exact h
theorem numL_take (a b s : Int) (k : Nat) (h : k < cntL a b s) : (numL a b s).take (k+1) = (numL a b s).take k ++ [a + k * s] := by
 rw [List.take_succ_eq_append_getElem (by rw [numL_len]; exact h), numL_get]

set_option maxHeartbeats 3200000 in
theorem numbersOf_c (a b s : Int) (w : World) (h1 : -1000 ≤ a ∧ a ≤ 1000) (h2 : -1000 ≤ b ∧ b ≤ 1000) (h3 : -1000 ≤ s ∧ s ≤ 1000) (h4 : s ≠ 0) :
  Calls Try.prog 194 #[.agg #[.int .i64 a, .int .i64 b, .int .i64 s]] w (PInts w (numL a b s)) := by
 have hcl := cntL_le h1 h2 h4
 obtain ⟨h1a, h1b⟩ := h1
 obtain ⟨h2a, h2b⟩ := h2
 obtain ⟨h3a, h3b⟩ := h3
 have hst := Lib.hid (fun k : Nat => num_step (a := a) (b := b) h4 k)
 have hnl := Lib.hid (numL_len a b s)
 rcases Int.lt_or_lt_of_ne h4 with hs | hs
 ·
  replace h4 := Lib.hid h4
  go_enter Try.func194, Try.ntmps194
  go_wp2_with fail
  go_loopw [3, 4] (fun v x wr => ∃ (k : Nat) (x0 : Int), k ≤ cntL a b s ∧ x = .int .i64 x0 ∧ Hid (x0 = a + k * s) ∧ OwnI wr (w.heap.size + 1) v ((numL a b s).take k) ∧
    wr.cell? ⟨w.heap.size, 0, none⟩ = some (.int .i64 a) ∧ wr.cell? ⟨w.heap.size, 1, none⟩ = some (.int .i64 b) ∧ wr.cell? ⟨w.heap.size, 2, none⟩ = some (.int .i64 s) ∧ Ext w wr ∧ w.heap.size < wr.heap.size)
   (fun _ x _ => (if 0 < s then b - intOf x else intOf x - b).toNat)
  case atStart =>
   refine ⟨0, a, Nat.zero_le _, rfl, Lib.hid (by simp), ?_, by simp, by simp, by simp, qXo, by simp; omega⟩
   simpa using OwnI.lit0 (w.alloc (.cells #[.int .i64 a, .int .i64 b, .int .i64 s] 150)) (w.heap.size + 1) (by simp)
  case round =>
   obtain ⟨k, x0, hk, rfl, hx0, ho, c0, c1, c2, hx, hz⟩ := hrel
   have hz2 : w.heap.size + 1 ≤ wr.heap.size := hz
   have hsk := hst.out k
   rw [← hx0.out] at hsk
   by_cases hlt : k < cntL a b s
   ·
    have htk := Lib.hid (numL_take a b s k hlt)
    have hgo := hsk.2 hlt
    have hnext := Lib.hid (show x0 + s = a + ((k + 1 : Nat) : Int) * s by rw [hx0.out, Int.natCast_add, Int.add_mul]; omega)
    have g1 : b < x0 := by omega
    have g2 : x0 ≤ a := by rw [hx0.out]; have := Int.mul_nonneg (show (0 : Int) ≤ k by omega) (show (0 : Int) ≤ -s by omega); rw [Int.mul_neg] at this; omega
    have g3 : ¬ 0 < s := by omega
    have g4 : decide (0 < s) = false := by simpa using g3
    clear hsk hgo
    go_wp2_with (at_builtin; refine wpList_app rfl (.tmp 32) (.tmp 34) rfl rfl rfl (ho.ext ((Ext.refl _).alloc _)) (Ints.one _ 0 _ (Nat.zero_le _)) (by have := hnl.out; simp only [List.length_cons, List.length_nil, List.length_take]; omega) (by simp; omega) ?_)
    intro v' w3 ho3 _ hb3 _
    have hx3 := (hx.alloc (.cells #[.int .i64 x0] 3)).below hb3 (by omega)
    have d0 := below_cell hb3 (b := w.heap.size) (by omega) (((Ext.refl _).alloc (.cells #[.int .i64 x0] 3)).cell c0)
    have d1 := below_cell hb3 (b := w.heap.size) (by omega) (((Ext.refl _).alloc (.cells #[.int .i64 x0] 3)).cell c1)
    have d2 := below_cell hb3 (b := w.heap.size) (by omega) (((Ext.refl _).alloc (.cells #[.int .i64 x0] 3)).cell c2)
    have hz3 := hb3.size
    simp at hz3
    have hz4 : w.heap.size < w3.heap.size := by omega
    clear hb3 ho c0 c1 c2
    replace ho3 := Lib.hid ho3
    go_wp2_with fail
    go_roundw
    case rel => exact ⟨k+1, x0 + s, by omega, rfl, hnext, by rw [htk.out, ← hx0.out]; exact ho3.out, d0, d1, d2, hx3, hz4⟩
    case measure => simp [intOf]; first | (rw [if_pos hs, if_pos hs]; omega) | (rw [if_neg (by omega), if_neg (by omega)]; omega) | omega
   ·
    obtain rfl : k = cntL a b s := by omega
    have hno : ¬ (0 < s ∧ x0 < b ∨ s < 0 ∧ b < x0) := fun h => hlt (hsk.1 h)
    have g1 : ¬ b < x0 := by omega
    have g3 : ¬ 0 < s := by omega
    have g4 : decide (0 < s) = false := by simpa using g3
    have g5 : decide (b < x0) = false := by simpa using g1
    clear hsk hno
    replace ho := Lib.hid ho
    go_wp2_with fail
    go_ret
    exact PInts.mk (by have := ho.out; rw [List.take_of_length_le (by rw [hnl.out]; omega)] at this; exact this) (Nat.le_succ _) (by rw [hnl.out]; omega) hx
 ·
  replace h4 := Lib.hid h4
  go_enter Try.func194, Try.ntmps194
  go_wp2_with fail
  go_loopw [3, 4] (fun v x wr => ∃ (k : Nat) (x0 : Int), k ≤ cntL a b s ∧ x = .int .i64 x0 ∧ Hid (x0 = a + k * s) ∧ OwnI wr (w.heap.size + 1) v ((numL a b s).take k) ∧
    wr.cell? ⟨w.heap.size, 0, none⟩ = some (.int .i64 a) ∧ wr.cell? ⟨w.heap.size, 1, none⟩ = some (.int .i64 b) ∧ wr.cell? ⟨w.heap.size, 2, none⟩ = some (.int .i64 s) ∧ Ext w wr ∧ w.heap.size < wr.heap.size)
   (fun _ x _ => (if 0 < s then b - intOf x else intOf x - b).toNat)
  case atStart =>
   refine ⟨0, a, Nat.zero_le _, rfl, Lib.hid (by simp), ?_, by simp, by simp, by simp, qXo, by simp; omega⟩
   simpa using OwnI.lit0 (w.alloc (.cells #[.int .i64 a, .int .i64 b, .int .i64 s] 150)) (w.heap.size + 1) (by simp)
  case round =>
   obtain ⟨k, x0, hk, rfl, hx0, ho, c0, c1, c2, hx, hz⟩ := hrel
   have hz2 : w.heap.size + 1 ≤ wr.heap.size := hz
   have hsk := hst.out k
   rw [← hx0.out] at hsk
   by_cases hlt : k < cntL a b s
   ·
    have htk := Lib.hid (numL_take a b s k hlt)
    have hgo := hsk.2 hlt
    have hnext := Lib.hid (show x0 + s = a + ((k + 1 : Nat) : Int) * s by rw [hx0.out, Int.natCast_add, Int.add_mul]; omega)
    have g1 : x0 < b := by omega
    have g2 : a ≤ x0 := by rw [hx0.out]; have := Int.mul_nonneg (show (0 : Int) ≤ k by omega) (show (0 : Int) ≤ s by omega); omega
    have g3 : ¬ s < 0 := by omega
    clear hsk hgo
    go_wp2_with (at_builtin; refine wpList_app rfl (.tmp 32) (.tmp 34) rfl rfl rfl (ho.ext ((Ext.refl _).alloc _)) (Ints.one _ 0 _ (Nat.zero_le _)) (by have := hnl.out; simp only [List.length_cons, List.length_nil, List.length_take]; omega) (by simp; omega) ?_)
    intro v' w3 ho3 _ hb3 _
    have hx3 := (hx.alloc (.cells #[.int .i64 x0] 3)).below hb3 (by omega)
    have d0 := below_cell hb3 (b := w.heap.size) (by omega) (((Ext.refl _).alloc (.cells #[.int .i64 x0] 3)).cell c0)
    have d1 := below_cell hb3 (b := w.heap.size) (by omega) (((Ext.refl _).alloc (.cells #[.int .i64 x0] 3)).cell c1)
    have d2 := below_cell hb3 (b := w.heap.size) (by omega) (((Ext.refl _).alloc (.cells #[.int .i64 x0] 3)).cell c2)
    have hz3 := hb3.size
    simp at hz3
    have hz4 : w.heap.size < w3.heap.size := by omega
    clear hb3 ho c0 c1 c2
    replace ho3 := Lib.hid ho3
    go_wp2_with fail
    go_roundw
    case rel => exact ⟨k+1, x0 + s, by omega, rfl, hnext, by rw [htk.out, ← hx0.out]; exact ho3.out, d0, d1, d2, hx3, hz4⟩
    case measure => simp [intOf]; first | (rw [if_pos hs, if_pos hs]; omega) | (rw [if_neg (by omega), if_neg (by omega)]; omega) | omega
   ·
    obtain rfl : k = cntL a b s := by omega
    have hno : ¬ (0 < s ∧ x0 < b ∨ s < 0 ∧ b < x0) := fun h => hlt (hsk.1 h)
    have g1 : ¬ x0 < b := by omega
    have g3 : ¬ s < 0 := by omega
    have g4 : decide (s < 0) = false := by simpa using g3
    have g5 : decide (x0 < b) = false := by simpa using g1
    clear hsk hno
    replace ho := Lib.hid ho
    go_wp2_with fail
    go_ret
    exact PInts.mk (by have := ho.out; rw [List.take_of_length_le (by rw [hnl.out]; omega)] at this; exact this) (Nat.le_succ _) (by rw [hnl.out]; omega) hx

set_option maxHeartbeats 3200000 in
theorem numbers_c (a b s : Int) (w : World) (h1 : -1000 ≤ a ∧ a ≤ 1000) (h2 : -1000 ≤ b ∧ b ≤ 1000) (h3 : -1000 ≤ s ∧ s ≤ 1000) (h4 : s ≠ 0) :
  Calls Try.prog 176 #[.agg #[.int .i64 a, .int .i64 b, .int .i64 s]] w (PInts w (numL a b s)) := by
 have hcl := cntL_le h1 h2 h4
 obtain ⟨h1a, h1b⟩ := h1
 obtain ⟨h2a, h2b⟩ := h2
 obtain ⟨h3a, h3b⟩ := h3
 have hst := Lib.hid (fun k : Nat => num_step (a := a) (b := b) h4 k)
 have hnl := Lib.hid (numL_len a b s)
 rcases Int.lt_or_lt_of_ne h4 with hs | hs
 ·
  replace h4 := Lib.hid h4
  go_enter Try.func176, Try.ntmps176
  go_wp2_with fail
  go_loopw [3, 4] (fun v x wr => ∃ (k : Nat) (x0 : Int), k ≤ cntL a b s ∧ x = .int .i64 x0 ∧ Hid (x0 = a + k * s) ∧ OwnI wr (w.heap.size + 1) v ((numL a b s).take k) ∧
    wr.cell? ⟨w.heap.size, 0, none⟩ = some (.int .i64 a) ∧ wr.cell? ⟨w.heap.size, 1, none⟩ = some (.int .i64 b) ∧ wr.cell? ⟨w.heap.size, 2, none⟩ = some (.int .i64 s) ∧ Ext w wr ∧ w.heap.size < wr.heap.size)
   (fun _ x _ => (if 0 < s then b - intOf x else intOf x - b).toNat)
  case atStart =>
   refine ⟨0, a, Nat.zero_le _, rfl, Lib.hid (by simp), ?_, by simp, by simp, by simp, qXo, by simp; omega⟩
   simpa using OwnI.lit0 (w.alloc (.cells #[.int .i64 a, .int .i64 b, .int .i64 s] 150)) (w.heap.size + 1) (by simp)
  case round =>
   obtain ⟨k, x0, hk, rfl, hx0, ho, c0, c1, c2, hx, hz⟩ := hrel
   have hz2 : w.heap.size + 1 ≤ wr.heap.size := hz
   have hsk := hst.out k
   rw [← hx0.out] at hsk
   by_cases hlt : k < cntL a b s
   ·
    have htk := Lib.hid (numL_take a b s k hlt)
    have hgo := hsk.2 hlt
    have hnext := Lib.hid (show x0 + s = a + ((k + 1 : Nat) : Int) * s by rw [hx0.out, Int.natCast_add, Int.add_mul]; omega)
    have g1 : b < x0 := by omega
    have g2 : x0 ≤ a := by rw [hx0.out]; have := Int.mul_nonneg (show (0 : Int) ≤ k by omega) (show (0 : Int) ≤ -s by omega); rw [Int.mul_neg] at this; omega
    have g3 : ¬ 0 < s := by omega
    have g4 : decide (0 < s) = false := by simpa using g3
    clear hsk hgo
    go_wp2_with (at_builtin; refine wpList_app rfl (.tmp 32) (.tmp 34) rfl rfl rfl (ho.ext ((Ext.refl _).alloc _)) (Ints.one _ 0 _ (Nat.zero_le _)) (by have := hnl.out; simp only [List.length_cons, List.length_nil, List.length_take]; omega) (by simp; omega) ?_)
    intro v' w3 ho3 _ hb3 _
    have hx3 := (hx.alloc (.cells #[.int .i64 x0] 3)).below hb3 (by omega)
    have d0 := below_cell hb3 (b := w.heap.size) (by omega) (((Ext.refl _).alloc (.cells #[.int .i64 x0] 3)).cell c0)
    have d1 := below_cell hb3 (b := w.heap.size) (by omega) (((Ext.refl _).alloc (.cells #[.int .i64 x0] 3)).cell c1)
    have d2 := below_cell hb3 (b := w.heap.size) (by omega) (((Ext.refl _).alloc (.cells #[.int .i64 x0] 3)).cell c2)
    have hz3 := hb3.size
    simp at hz3
    have hz4 : w.heap.size < w3.heap.size := by omega
    clear hb3 ho c0 c1 c2
    replace ho3 := Lib.hid ho3
    go_wp2_with fail
    go_roundw
    case rel => exact ⟨k+1, x0 + s, by omega, rfl, hnext, by rw [htk.out, ← hx0.out]; exact ho3.out, d0, d1, d2, hx3, hz4⟩
    case measure => simp [intOf]; first | (rw [if_pos hs, if_pos hs]; omega) | (rw [if_neg (by omega), if_neg (by omega)]; omega) | omega
   ·
    obtain rfl : k = cntL a b s := by omega
    have hno : ¬ (0 < s ∧ x0 < b ∨ s < 0 ∧ b < x0) := fun h => hlt (hsk.1 h)
    have g1 : ¬ b < x0 := by omega
    have g3 : ¬ 0 < s := by omega
    have g4 : decide (0 < s) = false := by simpa using g3
    have g5 : decide (b < x0) = false := by simpa using g1
    clear hsk hno
    replace ho := Lib.hid ho
    go_wp2_with fail
    go_ret
    exact PInts.mk (by have := ho.out; rw [List.take_of_length_le (by rw [hnl.out]; omega)] at this; exact this) (Nat.le_succ _) (by rw [hnl.out]; omega) hx
 ·
  replace h4 := Lib.hid h4
  go_enter Try.func176, Try.ntmps176
  go_wp2_with fail
  go_loopw [3, 4] (fun v x wr => ∃ (k : Nat) (x0 : Int), k ≤ cntL a b s ∧ x = .int .i64 x0 ∧ Hid (x0 = a + k * s) ∧ OwnI wr (w.heap.size + 1) v ((numL a b s).take k) ∧
    wr.cell? ⟨w.heap.size, 0, none⟩ = some (.int .i64 a) ∧ wr.cell? ⟨w.heap.size, 1, none⟩ = some (.int .i64 b) ∧ wr.cell? ⟨w.heap.size, 2, none⟩ = some (.int .i64 s) ∧ Ext w wr ∧ w.heap.size < wr.heap.size)
   (fun _ x _ => (if 0 < s then b - intOf x else intOf x - b).toNat)
  case atStart =>
   refine ⟨0, a, Nat.zero_le _, rfl, Lib.hid (by simp), ?_, by simp, by simp, by simp, qXo, by simp; omega⟩
   simpa using OwnI.lit0 (w.alloc (.cells #[.int .i64 a, .int .i64 b, .int .i64 s] 150)) (w.heap.size + 1) (by simp)
  case round =>
   obtain ⟨k, x0, hk, rfl, hx0, ho, c0, c1, c2, hx, hz⟩ := hrel
   have hz2 : w.heap.size + 1 ≤ wr.heap.size := hz
   have hsk := hst.out k
   rw [← hx0.out] at hsk
   by_cases hlt : k < cntL a b s
   ·
    have htk := Lib.hid (numL_take a b s k hlt)
    have hgo := hsk.2 hlt
    have hnext := Lib.hid (show x0 + s = a + ((k + 1 : Nat) : Int) * s by rw [hx0.out, Int.natCast_add, Int.add_mul]; omega)
    have g1 : x0 < b := by omega
    have g2 : a ≤ x0 := by rw [hx0.out]; have := Int.mul_nonneg (show (0 : Int) ≤ k by omega) (show (0 : Int) ≤ s by omega); omega
    have g3 : ¬ s < 0 := by omega
    clear hsk hgo
    go_wp2_with (at_builtin; refine wpList_app rfl (.tmp 32) (.tmp 34) rfl rfl rfl (ho.ext ((Ext.refl _).alloc _)) (Ints.one _ 0 _ (Nat.zero_le _)) (by have := hnl.out; simp only [List.length_cons, List.length_nil, List.length_take]; omega) (by simp; omega) ?_)
    intro v' w3 ho3 _ hb3 _
    have hx3 := (hx.alloc (.cells #[.int .i64 x0] 3)).below hb3 (by omega)
    have d0 := below_cell hb3 (b := w.heap.size) (by omega) (((Ext.refl _).alloc (.cells #[.int .i64 x0] 3)).cell c0)
    have d1 := below_cell hb3 (b := w.heap.size) (by omega) (((Ext.refl _).alloc (.cells #[.int .i64 x0] 3)).cell c1)
    have d2 := below_cell hb3 (b := w.heap.size) (by omega) (((Ext.refl _).alloc (.cells #[.int .i64 x0] 3)).cell c2)
    have hz3 := hb3.size
    simp at hz3
    have hz4 : w.heap.size < w3.heap.size := by omega
    clear hb3 ho c0 c1 c2
    replace ho3 := Lib.hid ho3
    go_wp2_with fail
    go_roundw
    case rel => exact ⟨k+1, x0 + s, by omega, rfl, hnext, by rw [htk.out, ← hx0.out]; exact ho3.out, d0, d1, d2, hx3, hz4⟩
    case measure => simp [intOf]; first | (rw [if_pos hs, if_pos hs]; omega) | (rw [if_neg (by omega), if_neg (by omega)]; omega) | omega
   ·
    obtain rfl : k = cntL a b s := by omega
    have hno : ¬ (0 < s ∧ x0 < b ∨ s < 0 ∧ b < x0) := fun h => hlt (hsk.1 h)
    have g1 : ¬ x0 < b := by omega
    have g3 : ¬ s < 0 := by omega
    have g4 : decide (s < 0) = false := by simpa using g3
    have g5 : decide (x0 < b) = false := by simpa using g1
    clear hsk hno
    replace ho := Lib.hid ho
    go_wp2_with fail
    go_ret
    exact PInts.mk (by have := ho.out; rw [List.take_of_length_le (by rw [hnl.out]; omega)] at this; exact this) (Nat.le_succ _) (by rw [hnl.out]; omega) hx


end Go.Proofs.Ytfbbnbpobojboaa

/- Walks towards SplitDim: dimensions, ranks. -/
namespace Go.Proofs.Ytfbbnbpobojboaa
open Go.RowKit
set_option linter.unusedVariables false
set_option maxRecDepth 100000

/-- is it a view with such a dimension? -/
def dimB (b : Int) (s t : List Int) (i : Int) : Bool := viewB b s t && inB 0 ((s.length : Int) - 1) i

set_option maxHeartbeats 1600000 in
theorem isDim_c (b1 : Int) (u1 v1 : Value) (s1 t1 : List Int) (i : Int) (w : World) (l1 m1 : Nat) (h1 : Ints w l1 u1 s1) (k1 : Ints w m1 v1 t1) (hl : s1.length ≤ 4) :
    Calls Try.prog 74 #[.agg #[.int .i64 b1, u1, v1], .int .i64 i] w (fun e w' => e = .returned (.bool (inB 0 ((s1.length : Int) - 1) i)) ∧ Ext w w') := by
  obtain ⟨a1, c1, rfl⟩ := h1.form
  have hw := Lib.hid (show wrap64 ((s1.length : Int) - 1) = (s1.length : Int) - 1 from IntWalk.wrap64_in _ ⟨by omega, by omega⟩)
  go_enter Try.func74, Try.ntmps74
  go_wp2_with (go_at_call 86; refine (inRange_c _ _ _ _).mono ?_; rintro e w' ⟨rfl, rfl⟩)
  go_ret
  exact ⟨rfl, qXo⟩

set_option maxHeartbeats 1600000 in
theorem hasDim_c (b1 : Int) (u1 v1 : Value) (s1 t1 : List Int) (i : Int) (w : World) (l1 m1 : Nat) (h1 : Ints w l1 u1 s1) (k1 : Ints w m1 v1 t1) :
    Calls Try.prog 77 #[.agg #[.int .i64 b1, u1, v1], .int .i64 i] w (fun e w' => e = .returned (.bool (dimB b1 s1 t1 i)) ∧ Ext w w') := by
  obtain ⟨a1, c1, rfl⟩ := h1.form
  cases ha : viewB b1 s1 t1
  · have hr := Lib.hid (show dimB b1 s1 t1 i = false by unfold dimB; rw [ha]; rfl)
    go_enter Try.func77, Try.ntmps77
    go_wp2_with fail
    refine (isView_c b1 _ _ s1 t1 _ l1 m1 (h1.ext qXo) (k1.ext qXo)).mono ?_
    rintro e w1 ⟨rfl, xw1⟩
    have Xw1 : Ext w w1 := Ext.trans qXo xw1
    rw [ha]
    go_wp2_with fail
    go_ret
    exact ⟨by rw [hr.out] <;> rfl, Xw1⟩
  · have hr := Lib.hid (show dimB b1 s1 t1 i = inB 0 ((s1.length : Int) - 1) i by unfold dimB; rw [ha]; rfl)
    have ha' := Lib.hid ha
    clear ha
    go_enter Try.func77, Try.ntmps77
    go_wp2_with fail
    refine (isView_c b1 _ _ s1 t1 _ l1 m1 (h1.ext qXo) (k1.ext qXo)).mono ?_
    rintro e w1 ⟨rfl, xw1⟩
    have Xw1 : Ext w w1 := Ext.trans qXo xw1
    have c11 : w1.cell? ⟨w.heap.size, 1, none⟩ = some (.slice a1 s1.length c1) := xw1.cell qFz
    rw [ha'.out]
    go_wp2_with fail
    all_goals
      go_ret
      refine ⟨?_, Xw1⟩
      rw [hr.out]
      refine ret_b ?_
      first | rfl | (rw [Bool.eq_iff_iff]; simp [inB] <;> omega)

set_option maxHeartbeats 1600000 in
theorem cleared_0 (b1 : Int) (u1 v1 : Value) (s1 : List Int) (w : World) (l1 : Nat) (h1 : Ints w l1 u1 s1) (hc : countL s1 = 0) :
    Calls Try.prog 167 #[.agg #[.int .i64 b1, u1, v1]] w (fun e w' => ∃ st, e = .returned (.agg #[.int .i64 0, u1, st]) ∧ OwnI w' w.heap.size st (List.replicate s1.length 0) ∧ Ext w w') := by
  obtain ⟨a1, c1, rfl⟩ := h1.form
  have hlen : s1.length ≤ 4194304 := by obtain ⟨_, _, _, _, _, ⟨h, _⟩, _⟩ := h1; exact h
  have hmk := mk_ints s1.length hlen
  go_enter Try.func167, Try.ntmps167
  go_wp2_with (go_at_call 157; refine (countOf_c s1 _ _ l1 (h1.ext qXo)).mono ?_; rintro e w' ⟨rfl, rfl⟩)
  refine bodyPost_ret (v := .agg #[.int .i64 0, .slice a1 s1.length c1, .slice (some ⟨w.heap.size + 2, 0, none⟩) s1.length s1.length]) (by simp only [results, Try.results167]; go_simp) rfl ?_
  refine ⟨_, rfl, ?_, ?_⟩
  · have := OwnI.made ((w.alloc (.cells #[.int .i64 0, .slice a1 s1.length c1, .slice (some ⟨w.heap.size + 1 + 1, 0, none⟩) s1.length s1.length] 36)).alloc (.cells #[.int .i64 0, .slice a1 s1.length c1, .slice (some ⟨w.heap.size + 1 + 1, 0, none⟩) s1.length s1.length] 36)) w.heap.size s1.length (by simp <;> omega) hlen
    simpa using this
  · exact qXo

/-- the number of indices of a view without cells stays, its strides go -/
theorem cleared_1 (b1 : Int) (u1 v1 : Value) (s1 t1 : List Int) (w : World) (l1 m1 : Nat) (h1 : Ints w l1 u1 s1) (k1 : Ints w m1 v1 t1) (hc : countL s1 ≠ 0) :
    Calls Try.prog 167 #[.agg #[.int .i64 b1, u1, v1]] w (fun e w' => e = .returned (.agg #[.int .i64 b1, u1, v1]) ∧ Ext w w') := by
  obtain ⟨a1, c1, rfl⟩ := h1.form
  obtain ⟨a2, c2, rfl⟩ := k1.form
  have hc1 : (countL s1 == 0) = false := by simpa using hc
  have hc2 : decide (countL s1 = 0) = false := by simpa using hc
  go_enter Try.func167, Try.ntmps167
  go_wp2_with (go_at_call 157; refine (countOf_c s1 _ _ l1 (h1.ext qXo)).mono ?_; rintro e w' ⟨rfl, rfl⟩)
  refine bodyPost_ret (v := .agg #[.int .i64 b1, .slice a1 s1.length c1, .slice a2 t1.length c2]) (by simp only [results, Try.results167]; go_simp) rfl ?_
  exact ⟨rfl, qXo⟩

end Go.Proofs.Ytfbbnbpobojboaa

/- A copy of a view by the reference. -/
namespace Go.Proofs.Ytfbbnbpobojboaa
open Go.RowKit
set_option linter.unusedVariables false
set_option maxRecDepth 100000

set_option maxHeartbeats 1000000 in
theorem scopyView_c (base : Int) (sh st : Value) (shape strides : List Int) (w : World) (lo lo' : Nat) (hsh : Ints w lo sh shape) (hst : Ints w lo' st strides) :
    Calls Try.prog 120 #[.agg #[.int .i64 base, sh, st]] w (PView w base shape strides) := by
  have hl1 : shape.length ≤ 4194304 := by obtain ⟨_, _, _, _, _, ⟨h, _⟩, _⟩ := hsh; exact h
  have hl2 : strides.length ≤ 4194304 := by obtain ⟨_, _, _, _, _, ⟨h, _⟩, _⟩ := hst; exact h
  go_enter Try.func120, Try.ntmps120
  go_wp2_with fail
  have c0 : ((w.alloc (.cells #[.int .i64 base, sh, st] 36)).alloc (.cells #[.int .i64 0, .slice none 0 0, .slice none 0 0] 36)).cell? ⟨w.heap.size, 0, none⟩ = some (.int .i64 base) := by rw [World.cell?_alloc_lt _ _ _ (by simp)]; simp
  have c1 : ((w.alloc (.cells #[.int .i64 base, sh, st] 36)).alloc (.cells #[.int .i64 0, .slice none 0 0, .slice none 0 0] 36)).cell? ⟨w.heap.size, 1, none⟩ = some sh := by rw [World.cell?_alloc_lt _ _ _ (by simp)]; simp
  have c2 : ((w.alloc (.cells #[.int .i64 base, sh, st] 36)).alloc (.cells #[.int .i64 0, .slice none 0 0, .slice none 0 0] 36)).cell? ⟨w.heap.size, 2, none⟩ = some st := by rw [World.cell?_alloc_lt _ _ _ (by simp)]; simp
  have r0 : ∀ j : Nat, j < 3 → (∃ u, ((w.alloc (.cells #[.int .i64 base, sh, st] 36)).alloc (.cells #[.int .i64 0, .slice none 0 0, .slice none 0 0] 36)).cell? ⟨w.heap.size + 1, j, none⟩ = some u) ∧ ((w.alloc (.cells #[.int .i64 base, sh, st] 36)).alloc (.cells #[.int .i64 0, .slice none 0 0, .slice none 0 0] 36)).frozen? ⟨w.heap.size + 1, j, none⟩ = false := by
    intro j hj
    have e : w.heap.size + 1 = (w.alloc (.cells #[.int .i64 base, sh, st] 36)).heap.size := by simp
    rw [e]
    refine ⟨?_, by simp⟩
    rw [World.cell?_alloc_new]
    match j, hj with
    | 0, _ => exact ⟨_, rfl⟩
    | 1, _ => exact ⟨_, rfl⟩
    | 2, _ => exact ⟨_, rfl⟩
  have hx0 : Ext w ((w.alloc (.cells #[.int .i64 base, sh, st] 36)).alloc (.cells #[.int .i64 0, .slice none 0 0, .slice none 0 0] 36)) := ((Ext.refl _).alloc _).alloc _
  have hz0 : w.heap.size + 2 ≤ ((w.alloc (.cells #[.int .i64 base, sh, st] 36)).alloc (.cells #[.int .i64 0, .slice none 0 0, .slice none 0 0] 36)).heap.size := by simp
  revert c0 c1 c2 r0 hx0 hz0
  generalize (w.alloc (.cells #[.int .i64 base, sh, st] 36)).alloc (.cells #[.int .i64 0, .slice none 0 0, .slice none 0 0] 36) = w0
  intro c0 c1 c2 r0 hx0 hz0
  obtain ⟨⟨ua, ra⟩, fa⟩ := r0 0 (by omega)
  obtain ⟨⟨ub, rb⟩, fb⟩ := r0 1 (by omega)
  obtain ⟨⟨uc, rc⟩, fc⟩ := r0 2 (by omega)
  clear r0
  have hz1 : w.heap.size + 1 < w0.heap.size := by omega
  have hz2 : w.heap.size < w0.heap.size := by omega
  go_region_held3 (fun w' => w'.cell? ⟨w.heap.size, 0, none⟩ = some (.int .i64 base) ∧ w'.cell? ⟨w.heap.size, 1, none⟩ = some sh ∧ w'.cell? ⟨w.heap.size, 2, none⟩ = some st)
    (first
      | go_keep
      | exact ⟨X1.cell c0, X1.cell c1, X1.cell c2⟩
      | exact ⟨X2.cell c0, X2.cell c1, X2.cell c2⟩)
    (first
      | (go_at_call 133; refine (copyInts_c shape _ _ lo (hsh.ext (hx0.trans qXo))).mono ?_; rintro e w1 ⟨v1, rfl, hi1, ho1, hx1⟩; obtain ⟨p1, q1, s1, rfl⟩ := ho1.form; have X1 : Ext w0 w1 := Ext.trans qXo hx1; have R1 := X1.rule; have F1 := X1.frule)
      | (go_at_call 133; refine (copyInts_c strides _ _ lo' (hst.ext (hx0.trans qXo))).mono ?_; rintro e w2 ⟨v2, rfl, hi2, ho2, hx2⟩; obtain ⟨p2, q2, s2, rfl⟩ := ho2.form; have X2 : Ext w0 w2 := Ext.trans qXo hx2; have R2 := X2.rule; have F2 := X2.frule))
  all_goals
    go_wp2_with fail
    refine bodyPost_ret (v := .agg #[.int .i64 base, .slice p1 q1 s1, .slice p2 q2 s2]) (by simp only [results, Try.results120]; go_simp) rfl ?_
    refine copy_close hx0 X1 (ho1.lower (by simp <;> omega)) (Ext.trans (by repeat (first | exact Ext.refl _ | apply Ext.drew | apply Ext.alloc)) hx2) (ho2.lower (by simp <;> omega)) hz1 hl1 hl2 _ _ _ rfl rfl rfl _ _ _

end Go.Proofs.Ytfbbnbpobojboaa

/- Walks: a view that the reference hands back, with a bool. -/
namespace Go.Proofs.Ytfbbnbpobojboaa
open Go.RowKit
set_option linter.unusedVariables false
set_option maxRecDepth 100000

/-- a call hands back a new view and a bool -/
def PViewB (w : World) (base : Int) (shape strides : List Int) (b : Bool) (e : Ending) (w' : World) : Prop :=
  ∃ sh st, e = .returned (.tuple #[.agg #[.int .i64 base, sh, st], .bool b]) ∧ Ints w' w.heap.size sh shape ∧ Ints w' w.heap.size st strides ∧ OwnZ w' w.heap.size sh shape ∧ OwnZ w' w.heap.size st strides ∧
    (shape ≠ [] → strides ≠ [] → sh.ownBlock ≠ st.ownBlock) ∧ Ext w w'
theorem PViewB.no {w w' : World} (h : Ext w w') : PViewB w 0 [] [] false (.returned (.tuple #[.agg #[.int .i64 0, .slice none 0 0, .slice none 0 0], .bool false])) w' :=
  ⟨_, _, rfl, Ints.nil _ _ _ _ (by simp) (fun _ => rfl), Ints.nil _ _ _ _ (by simp) (fun _ => rfl), .inl ⟨rfl, none, 0, rfl, by simp, fun _ => rfl⟩, .inl ⟨rfl, none, 0, rfl, by simp, fun _ => rfl⟩, fun h => absurd rfl h, h⟩

theorem PViewB.put {w w1 w2 : World} {base : Int} {shape strides : List Int} {v1 v2 : Value} {a b c : Addr} {u v x : Value} {g : Nat} (l1 : shape.length ≤ 4194304) (l2 : strides.length ≤ 4194304) (o1 : OwnZ w2 w1.heap.size v1 shape) (o2 : OwnZ w2 w1.heap.size v2 strides)
    (od : shape ≠ [] → strides ≠ [] → v1.ownBlock ≠ v2.ownBlock) (hz : w.heap.size ≤ w1.heap.size ∧ g < w1.heap.size) (ha : a.block = g) (hb : b.block = g) (hc : c.block = g) (hx : Ext w (((w2.setCell a u).setCell b v).setCell c x)) :
    PViewB w base shape strides true (.returned (.tuple #[.agg #[.int .i64 base, v1, v2], .bool true])) (((w2.setCell a u).setCell b v).setCell c x) := by
  have o1' := ((o1.setCell_below (a := a) (by omega) u).setCell_below (a := b) (by omega) v).setCell_below (a := c) (by omega) x
  have o2' := ((o2.setCell_below (a := a) (by omega) u).setCell_below (a := b) (by omega) v).setCell_below (a := c) (by omega) x
  exact ⟨v1, v2, rfl, (o1'.lower hz.1).ints l1, (o2'.lower hz.1).ints l2, o1'.lower hz.1, o2'.lower hz.1, od, hx⟩
theorem ints_len {w : World} {lo : Nat} {v : Value} {xs : List Int} (h : Ints w lo v xs) : xs.length ≤ 4194304 := by obtain ⟨_, _, _, _, _, ⟨h, _⟩, _⟩ := h; exact h

set_option maxHeartbeats 1600000 in
theorem made_1 (b1 : Int) (u1 v1 : Value) (s1 t1 : List Int) (w : World) (l1 m1 : Nat) (h1 : Ints w l1 u1 s1) (k1 : Ints w m1 v1 t1) (ha : viewB b1 s1 t1 = true) :
    Calls Try.prog 129 #[.agg #[.int .i64 b1, u1, v1]] w (PViewB w b1 s1 t1 true) := by
  go_enter Try.func129, Try.ntmps129
  go_wp2_with fail
  refine (validView_c b1 _ _ s1 t1 _ l1 m1 (h1.ext qXo) (k1.ext qXo)).mono ?_
  rintro e w1 ⟨rfl, xw1⟩
  have Lw1 : Ext w w1 := Ext.trans qXo xw1
  have Xw1 : Ext w w1 := Lw1
  have c10 : w1.cell? ⟨w.heap.size, 0, none⟩ = some (.int .i64 b1) := xw1.cell qCl
  have c11 : w1.cell? ⟨w.heap.size, 1, none⟩ = some (u1) := xw1.cell qCl
  have c12 : w1.cell? ⟨w.heap.size, 2, none⟩ = some (v1) := xw1.cell qCl
  have q0 : w1.cell? ⟨w.heap.size + 1, 0, none⟩ = some (.int .i64 0) := xw1.cell qCl
  have q1 : w1.cell? ⟨w.heap.size + 1, 1, none⟩ = some (.slice none 0 0) := xw1.cell qCl
  have q2 : w1.cell? ⟨w.heap.size + 1, 2, none⟩ = some (.slice none 0 0) := xw1.cell qCl
  have zr : w.heap.size + 1 < w1.heap.size := qB q0
  have p0 : w1.frozen? ⟨w.heap.size + 1, 0, none⟩ = false := xw1.frz (by simp <;> omega) qFz
  have p1 : w1.frozen? ⟨w.heap.size + 1, 1, none⟩ = false := xw1.frz (by simp <;> omega) qFz
  have p2 : w1.frozen? ⟨w.heap.size + 1, 2, none⟩ = false := xw1.frz (by simp <;> omega) qFz
  have z1 : w.heap.size < w1.heap.size := qB c10
  have sw1 : w.heap.size ≤ w1.heap.size := Lw1.size
  rw [ha]
  have zk := zr
  go_wp2_with fail
  refine (scopyView_c b1 _ _ s1 t1 _ l1 m1 (h1.ext (Xw1.trans qXo)) (k1.ext (Xw1.trans qXo))).mono ?_
  rintro e w2 ⟨x1, x2, rfl, i1, i2, o1, o2, od, xw2⟩
  have hl1 := ints_len i1
  have hl2 := ints_len i2
  obtain ⟨y1, n1, rfl⟩ := i1.form
  obtain ⟨y2, n2, rfl⟩ := i2.form
  have Lw2 : Ext w1 w2 := Ext.trans qXo xw2
  have Xw2 : Ext w w2 := Xw1.trans Lw2
  replace c10 := Lw2.cell c10
  replace c11 := Lw2.cell c11
  replace c12 := Lw2.cell c12
  replace q0 := Lw2.cell q0
  replace p0 := Lw2.frz zr p0
  replace q1 := Lw2.cell q1
  replace p1 := Lw2.frz zr p1
  replace q2 := Lw2.cell q2
  replace p2 := Lw2.frz zr p2
  replace zr := Nat.lt_of_lt_of_le zr Lw2.size
  have z2 : w.heap.size < w2.heap.size := qB c10
  have sw2 : w1.heap.size ≤ w2.heap.size := Lw2.size
  go_wp2_with fail
  refine bodyPost_ret (v := .tuple #[.agg #[.int .i64 b1, .slice y1 s1.length n1, .slice y2 t1.length n2], .bool true]) (by simp only [results, Try.results129]; go_simp) rfl ?_
  exact PViewB.put (g := w.heap.size + 1) hl1 hl2 o1 o2 od (by constructor <;> (try simp) <;> omega) rfl rfl rfl (by repeat (first | exact Ext.refl _ | assumption | apply Ext.drewN | apply Ext.drew | apply Ext.alloc | (refine Ext.setCell ?_ (by simp) _)))

end Go.Proofs.Ytfbbnbpobojboaa

/- Walks: strides by rows and numbers in order, of the reference; orders of dimensions. -/
namespace Go.Proofs.Ytfbbnbpobojboaa
open Go.RowKit
set_option linter.unusedVariables false
set_option maxRecDepth 100000

end Go.Proofs.Ytfbbnbpobojboaa

/- Walks: new views of the reference, tidy views. -/
namespace Go.Proofs.Ytfbbnbpobojboaa
open Go.RowKit
set_option linter.unusedVariables false
set_option maxRecDepth 100000

theorem PView.no {w w' : World} (h : Ext w w') : PView w 0 [] [] (.returned (.agg #[.int .i64 0, .slice none 0 0, .slice none 0 0])) w' :=
  ⟨_, _, rfl, Ints.nil _ _ _ _ (by simp) (fun _ => rfl), Ints.nil _ _ _ _ (by simp) (fun _ => rfl), .inl ⟨rfl, none, 0, rfl, by simp, fun _ => rfl⟩, .inl ⟨rfl, none, 0, rfl, by simp, fun _ => rfl⟩, fun h => absurd rfl h, h⟩
theorem PView.two {w w' : World} {base : Int} {shape strides : List Int} {v1 v2 : Value} {b1 b2 m : Nat} (o1 : OwnZ w' b1 v1 shape) (o2 : OwnZ w' b2 v2 strides) (h1 : w.heap.size ≤ b1) (h2 : w.heap.size ≤ b2)
    (hd : (shape ≠ [] → ∀ g, v1.ownBlock = some g → g < m) ∧ m ≤ b2 ∨ (strides ≠ [] → ∀ g, v2.ownBlock = some g → g < m) ∧ m ≤ b1) (l1 : shape.length ≤ 4194304) (l2 : strides.length ≤ 4194304) (hx : Ext w w') : PView w base shape strides (.returned (.agg #[.int .i64 base, v1, v2])) w' := by
  refine ⟨v1, v2, rfl, (o1.lower h1).ints l1, (o2.lower h2).ints l2, o1.lower h1, o2.lower h2, fun n1 n2 => ?_, hx⟩
  obtain ⟨g1, e1, t1, _⟩ := o1.lt n1
  obtain ⟨g2, e2, t2, _⟩ := o2.lt n2
  rw [e1, e2]
  rcases hd with ⟨hd, hm⟩ | ⟨hd, hm⟩
  · have := hd n1 g1 e1; simp; omega
  · have := hd n2 g2 e2; simp; omega

theorem Chg.three {lo : Nat} (w : World) (x y z : Value) : Chg lo (lo + 1) w (((w.setCell ⟨lo, 0, none⟩ x).setCell ⟨lo, 1, none⟩ y).setCell ⟨lo, 2, none⟩ z) :=
  (((Chg.refl lo (lo + 1) w).setCell (p := ⟨lo, 0, none⟩) (Nat.le_refl _) (Nat.lt_succ_self _) _).setCell (p := ⟨lo, 1, none⟩) (Nat.le_refl _) (Nat.lt_succ_self _) _).setCell (p := ⟨lo, 2, none⟩) (Nat.le_refl _) (Nat.lt_succ_self _) _

end Go.Proofs.Ytfbbnbpobojboaa

/- Walks: tidy views, a number put into a list (of the reference). -/
namespace Go.Proofs.Ytfbbnbpobojboaa
open Go.RowKit
set_option linter.unusedVariables false
set_option maxRecDepth 100000

/-- base and strides of a tidy view -/
def tidyB (b : Int) (s : List Int) : Int := if countL s = 0 then 0 else b
def tidyT (s t : List Int) : List Int := if countL s = 0 then List.replicate s.length 0 else t

set_option maxHeartbeats 1600000 in
theorem tidy_0 (b1 : Int) (u1 v1 : Value) (s1 : List Int) (w : World) (l1 : Nat) (h1 : Ints w l1 u1 s1) (hc : countL s1 = 0) :
    Calls Try.prog 177 #[.agg #[.int .i64 b1, u1, v1]] w (fun e w' => ∃ st, e = .returned (.agg #[.int .i64 0, u1, st]) ∧ OwnI w' w.heap.size st (List.replicate s1.length 0) ∧ Ext w w') := by
  obtain ⟨a1, c1, rfl⟩ := h1.form
  have hlen : s1.length ≤ 4194304 := by obtain ⟨_, _, _, _, _, ⟨h, _⟩, _⟩ := h1; exact h
  have hmk := mk_ints s1.length hlen
  go_enter Try.func177, Try.ntmps177
  go_wp2_with (go_at_call 119; refine (count_c s1 _ _ l1 (h1.ext qXo)).mono ?_; rintro e w' ⟨rfl, rfl⟩)
  have hx0 : Ext w ((w.alloc (.cells #[.int .i64 b1, .slice a1 s1.length c1, v1] 36)).alloc (.cells #[.int .i64 0, .slice none 0 0, .slice none 0 0] 36)) := ((Ext.refl _).alloc _).alloc _
  have c11 : ((w.alloc (.cells #[.int .i64 b1, .slice a1 s1.length c1, v1] 36)).alloc (.cells #[.int .i64 0, .slice none 0 0, .slice none 0 0] 36)).cell? ⟨w.heap.size, 1, none⟩ = some (.slice a1 s1.length c1) := by rw [World.cell?_alloc_lt _ _ _ (by simp)]; simp
  have k0 : ((w.alloc (.cells #[.int .i64 b1, .slice a1 s1.length c1, v1] 36)).alloc (.cells #[.int .i64 0, .slice none 0 0, .slice none 0 0] 36)).cell? ⟨w.heap.size + 1, 0, none⟩ = some (.int .i64 0) := by go_simp
  have k1 : ((w.alloc (.cells #[.int .i64 b1, .slice a1 s1.length c1, v1] 36)).alloc (.cells #[.int .i64 0, .slice none 0 0, .slice none 0 0] 36)).cell? ⟨w.heap.size + 1, 1, none⟩ = some (.slice none 0 0) := by go_simp
  have k2 : ((w.alloc (.cells #[.int .i64 b1, .slice a1 s1.length c1, v1] 36)).alloc (.cells #[.int .i64 0, .slice none 0 0, .slice none 0 0] 36)).cell? ⟨w.heap.size + 1, 2, none⟩ = some (.slice none 0 0) := by go_simp
  have f0 : ((w.alloc (.cells #[.int .i64 b1, .slice a1 s1.length c1, v1] 36)).alloc (.cells #[.int .i64 0, .slice none 0 0, .slice none 0 0] 36)).frozen? ⟨w.heap.size + 1, 0, none⟩ = false := by go_simp
  have f1 : ((w.alloc (.cells #[.int .i64 b1, .slice a1 s1.length c1, v1] 36)).alloc (.cells #[.int .i64 0, .slice none 0 0, .slice none 0 0] 36)).frozen? ⟨w.heap.size + 1, 1, none⟩ = false := by go_simp
  have f2 : ((w.alloc (.cells #[.int .i64 b1, .slice a1 s1.length c1, v1] 36)).alloc (.cells #[.int .i64 0, .slice none 0 0, .slice none 0 0] 36)).frozen? ⟨w.heap.size + 1, 2, none⟩ = false := by go_simp
  have z0 : w.heap.size + 1 < ((w.alloc (.cells #[.int .i64 b1, .slice a1 s1.length c1, v1] 36)).alloc (.cells #[.int .i64 0, .slice none 0 0, .slice none 0 0] 36)).heap.size := by simp
  revert hx0 c11 k0 k1 k2 f0 f1 f2 z0
  generalize (w.alloc (.cells #[.int .i64 b1, .slice a1 s1.length c1, v1] 36)).alloc (.cells #[.int .i64 0, .slice none 0 0, .slice none 0 0] 36) = w0
  intro hx0 c11 k0 k1 k2 f0 f1 f2 z0
  go_region_held3 (fun w' => w'.cell? ⟨w.heap.size, 1, none⟩ = some (.slice a1 s1.length c1)) (go_keep) (fail)
  go_wp2_with fail
  refine bodyPost_ret (v := .agg #[.int .i64 0, .slice a1 s1.length c1, .slice (some ⟨w0.heap.size, 0, none⟩) s1.length s1.length]) (by simp only [results, Try.results177]; go_simp) rfl ?_
  refine ⟨_, rfl, ?_, ?_⟩
  · have ho2 := fun x y z => (OwnI.made (((w0.setCell ⟨w.heap.size + 1, 0, none⟩ x).setCell ⟨w.heap.size + 1, 1, none⟩ y).setCell ⟨w.heap.size + 1, 2, none⟩ z) w.heap.size s1.length (by simp; omega) hlen)
    simp only [World.size_setCell] at ho2
    first | exact ho2 _ _ _ | exact (ho2 _ _ _).ext (Ext.drew (Ext.refl _))
  · exact qXt

/-- the number of indices of a view with cells stays -/
theorem tidy_1 (b1 : Int) (u1 v1 : Value) (s1 t1 : List Int) (w : World) (l1 m1 : Nat) (h1 : Ints w l1 u1 s1) (k1 : Ints w m1 v1 t1) (hc : countL s1 ≠ 0) :
    Calls Try.prog 177 #[.agg #[.int .i64 b1, u1, v1]] w (fun e w' => e = .returned (.agg #[.int .i64 b1, u1, v1]) ∧ Ext w w') := by
  obtain ⟨a1, c1, rfl⟩ := h1.form
  obtain ⟨a2, c2, rfl⟩ := k1.form
  have hc1 : (countL s1 == 0) = false := by simpa using hc
  have hc2 : decide (countL s1 = 0) = false := by simpa using hc
  go_enter Try.func177, Try.ntmps177
  go_wp2_with (go_at_call 119; refine (count_c s1 _ _ l1 (h1.ext qXo)).mono ?_; rintro e w' ⟨rfl, rfl⟩)
  refine bodyPost_ret (v := .agg #[.int .i64 b1, .slice a1 s1.length c1, .slice a2 t1.length c2]) (by simp only [results, Try.results177]; go_simp) rfl ?_
  exact ⟨rfl, qXo⟩

end Go.Proofs.Ytfbbnbpobojboaa

/- Plain laws on views: the cells of all indices, views that are drawn out of views. -/
namespace Go.Proofs.Ytfbbnbpobojboaa
open Go.RowKit
set_option linter.unusedVariables false
set_option maxRecDepth 100000

/-- the cells of all indices, unbounded -/
def offC (b : Int) (s t : List Int) : List Int := (idxR s).map fun r => dotC b r t

theorem idxR_none {s : List Int} (h : ¬ ∀ e ∈ s, 1 ≤ e) : idxR s = [] := by
  rw [List.eq_nil_iff_forall_not_mem]
  intro r hr
  exact h ((mem_idxR s r).1 hr).pos
theorem offs_C {b : Int} {s t : List Int} (hs : Small s) (hm : Mild b t) : offsL b s t = offC b s t := by
  obtain ⟨h1, h2, h3, h4⟩ := hs.count
  unfold offC
  by_cases hp : ∀ e ∈ s, 1 ≤ e
  · rw [← idx_eq s hp]
    unfold offsL
    rw [h1, List.map_map]
    refine List.map_congr_left fun k hk => ?_
    have hi := ix_unr s hp k
    exact dotL_eq (by rw [unrL_len]; exact hs.1) (hi.small fun e he => (hs.2 e he).2) hm
  · rw [idxR_none hp]
    refine offsL_zero ?_
    apply Classical.byContradiction
    intro hn
    exact hp (h4 (by omega))
theorem view_small {b : Int} {s t : List Int} (h : viewB b s t = true) : Small s := Small.of (viewB_in h).1
theorem view_mild {b : Int} {s t : List Int} (h : viewB b s t = true) : Mild b t := by
  obtain ⟨_, _, h1, h2, _⟩ := viewB_in h
  exact ⟨by omega, fun x hx => by have := h2 x hx; omega⟩
theorem view_C {b : Int} {s t : List Int} (h : viewB b s t = true) : offsL b s t = offC b s t := offs_C (view_small h) (view_mild h)

/-- what makes a view one -/
theorem viewB_mk {b : Int} {s t : List Int} (h1 : shapeB s = true) (h2 : t.length = s.length) (h3 : 0 ≤ b ∧ b ≤ 60) (h4 : ∀ x ∈ t, -60 ≤ x ∧ x ≤ 60) (h5 : ∀ x ∈ offsL b s t, 0 ≤ x ∧ x ≤ 59) : viewB b s t = true := by
  rw [viewB_end (by rw [h1, decide_eq_true h2]; simp [inB]; omega) (by rw [List.all_eq_true]; intro x hx; have := h4 x hx; simp [inB]; omega), any_out, List.all_eq_true]
  intro x hx; have := h5 x hx; simp [inB]; omega

end Go.Proofs.Ytfbbnbpobojboaa

/- Plain laws on views: the cell at a rank, indices one step apart. -/
namespace Go.Proofs.Ytfbbnbpobojboaa
open Go.RowKit
set_option linter.unusedVariables false
set_option maxRecDepth 100000

theorem dotC_set : ∀ (r t : List Int) (d : Nat) (x b : Int), d < r.length → r.length = t.length → dotC b (r.set d x) t = dotC b r t + (x - r.getD d 0) * t.getD d 0
  | [], _, d, _, _, h, _ => by simp at h
  | y :: r, [], _, _, _, _, h => by cases h
  | y :: r, q :: t, 0, x, b, _, _ => by simp [dotC, Int.sub_mul]; omega
  | y :: r, q :: t, d+1, x, b, h, hl => by
    simp only [List.set_cons_succ, dotC, List.getD_cons_succ]
    rw [dotC_set r t d x b (by simpa using h) (by simpa using hl)]; omega
theorem ix_set : ∀ (s r : List Int) (d : Nat) (x : Int), IxOf s r → d < s.length → 0 ≤ x → x < s.getD d 0 → IxOf s (r.set d x)
  | [], _, d, _, _, h, _, _ => by simp at h
  | e :: s, [], _, _, h, _, _, _ => h.elim
  | e :: s, y :: r, 0, x, h, _, h0, h1 => by simp at h1; exact ⟨⟨h0, h1⟩, h.2⟩
  | e :: s, y :: r, d+1, x, h, hd, h0, h1 => ⟨h.1, ix_set s r d x h.2 (by simpa using hd) h0 (by simpa using h1)⟩
theorem ix_get : ∀ (s r : List Int) (d : Nat), IxOf s r → d < s.length → 0 ≤ r.getD d 0 ∧ r.getD d 0 < s.getD d 0
  | [], _, d, _, h => by simp at h
  | e :: s, [], _, h, _ => h.elim
  | e :: s, y :: r, 0, h, _ => by simpa using h.1
  | e :: s, y :: r, d+1, h, hd => by simpa using ix_get s r d h.2 (by simpa using hd)

end Go.Proofs.Ytfbbnbpobojboaa

/- Plain laws on views: dimensions as pairs, in any order; what makes a view one, by its least and greatest cell. -/
namespace Go.Proofs.Ytfbbnbpobojboaa
open Go.RowKit
set_option linter.unusedVariables false
set_option maxRecDepth 100000

theorem viewB_zero {b : Int} {s t : List Int} (hc : countL s = 0) : viewB b s t = true ↔ (shapeB s = true ∧ t.length = s.length ∧ (0 ≤ b ∧ b ≤ 60) ∧ (∀ x ∈ t, -60 ≤ x ∧ x ≤ 60)) := by
  constructor
  · intro h
    obtain ⟨h1, h2, h3, h4, h5⟩ := viewB_in h
    exact ⟨h1, h2, h3, h4⟩
  · rintro ⟨h1, h2, h3, h4⟩
    exact viewB_mk h1 h2 h3 h4 (by rw [offsL_zero hc]; intro x hx; cases hx)

theorem shapeB_mk {s : List Int} (h : Small s) (hc : countL s ≤ 60) : shapeB s = true := by
  unfold shapeB
  rw [decide_eq_true h.1, decide_eq_true hc]
  simp only [Bool.true_and, Bool.and_true, List.all_eq_true]
  intro e he; have := h.2 e he; simp [inB]; omega
end Go.Proofs.Ytfbbnbpobojboaa

/- Walks: MeetRanges of the program and of the reference. -/
namespace Go.Proofs.Ytfbbnbpobojboaa
open Go.RowKit
set_option linter.unusedVariables false
set_option maxRecDepth 100000

end Go.Proofs.Ytfbbnbpobojboaa

/- Walks: what is asked of ranges: lengths, numbers, places, covers. -/
namespace Go.Proofs.Ytfbbnbpobojboaa
open Go.RowKit
set_option linter.unusedVariables false
set_option maxRecDepth 100000

end Go.Proofs.Ytfbbnbpobojboaa

/- Walks: slices of the reference: valid ones, ends, indices, and what a slice takes of a range. -/
namespace Go.Proofs.Ytfbbnbpobojboaa
open Go.RowKit
set_option linter.unusedVariables false
set_option maxRecDepth 100000

def sliceB (F T B : Int) (hf ht : Bool) : Bool := inB (-100) 100 F && (inB (-100) 100 T && (inB (-200) 200 B && (!(B == 0) && ((hf || F == 0) && (ht || T == 0)))))
theorem sliceB_in {F T B : Int} {hf ht : Bool} (h : sliceB F T B hf ht = true) : (-100 ≤ F ∧ F ≤ 100) ∧ (-100 ≤ T ∧ T ≤ 100) ∧ (-200 ≤ B ∧ B ≤ 200) ∧ B ≠ 0 := by
  simp only [sliceB, inB, Bool.and_eq_true, decide_eq_true_eq, Bool.not_eq_true', beq_eq_false_iff_ne] at h
  exact ⟨h.1, h.2.1, h.2.2.1, h.2.2.2.1⟩
/-- an end of a slice that is given -/
def boundI (n x b : Int) : Int := min (if b < 0 then n - 1 else n) (max (if b < 0 then -1 else 0) (if x < 0 then x + n else x))
def fromI (n F B : Int) (hf : Bool) : Int := if hf then boundI n F B else if B < 0 then n - 1 else 0
def toI (n T B : Int) (ht : Bool) : Int := if ht then boundI n T B else if B < 0 then -1 else n
/-- the indices that a slice takes of n -/
def idxS (n F T B : Int) (hf ht : Bool) : List Int := numL (fromI n F B hf) (toI n T B ht) B
theorem boundI_in {n x b : Int} (hn : 0 ≤ n) : (-1 ≤ boundI n x b ∧ boundI n x b ≤ n) ∧ (b < 0 → boundI n x b ≤ n - 1) ∧ (0 ≤ b → 0 ≤ boundI n x b) := by unfold boundI; split <;> split <;> omega
theorem fromI_in {n F B : Int} {hf : Bool} (hn : 0 ≤ n) : (-1 ≤ fromI n F B hf ∧ fromI n F B hf ≤ n) ∧ (B < 0 → fromI n F B hf ≤ n - 1) ∧ (0 ≤ B → 0 ≤ fromI n F B hf) := by
  have := boundI_in (n := n) (x := F) (b := B) hn
  unfold fromI; split
  · exact this
  · split <;> omega
theorem toI_in {n T B : Int} {ht : Bool} (hn : 0 ≤ n) : (-1 ≤ toI n T B ht ∧ toI n T B ht ≤ n) := by
  have := boundI_in (n := n) (x := T) (b := B) hn
  unfold toI; split
  · exact this.1
  · split <;> omega
theorem idxS_in {n F T B : Int} {hf ht : Bool} (hn : 0 ≤ n) (hB : B ≠ 0) : ∀ i ∈ idxS n F T B hf ht, 0 ≤ i ∧ i < n := by
  intro i hi
  have h1 := fromI_in (n := n) (F := F) (B := B) (hf := hf) hn
  have h2 := toI_in (n := n) (T := T) (B := B) (ht := ht) hn
  have h3 := numL_in hB hi
  omega
theorem ret_i {x y : Int} (h : x = y) : Ending.returned (.int .i64 x) = .returned (.int .i64 y) := by rw [h]

set_option maxHeartbeats 1600000 in
theorem bound_c (n x b : Int) (w : World) (hn : 0 ≤ n ∧ n ≤ 1000) (hx : -1000 ≤ x ∧ x ≤ 1000) :
    Calls Try.prog 192 #[.int .i64 n, .int .i64 x, .int .i64 b] w fun e w' => e = .returned (.int .i64 (boundI n x b)) ∧ w = w' := by
  obtain ⟨n0, n1⟩ := hn
  obtain ⟨x0, x1⟩ := hx
  by_cases hb : b < 0
  · by_cases hx0 : x < 0
    all_goals
      go_enter Try.func192, Try.ntmps192
      go_wp2_with fail
      go_ret
      exact ⟨ret_i (by unfold boundI; (repeat' split) <;> omega), rfl⟩
  · by_cases hx0 : x < 0
    all_goals
      go_enter Try.func192, Try.ntmps192
      go_wp2_with fail
      go_ret
      exact ⟨ret_i (by unfold boundI; (repeat' split) <;> omega), rfl⟩

set_option maxHeartbeats 3200000 in
theorem validSlice_c (F T B : Int) (hf ht : Bool) (w : World) :
    Calls Try.prog 149 #[.agg #[.int .i64 F, .int .i64 T, .int .i64 B, .bool hf, .bool ht]] w fun e w' => e = .returned (.bool (sliceB F T B hf ht)) ∧ Ext w w' := by
  unfold sliceB
  cases h1 : inB (-100) 100 F
  · go_enter Try.func149, Try.ntmps149
    go_wp2_with (go_at_call 86; refine (inRange_c _ _ _ _).mono ?_; rintro e w' ⟨rfl, rfl⟩)
    go_ret
    exact ⟨rfl, qXo⟩
  · cases h2 : inB (-100) 100 T
    · go_enter Try.func149, Try.ntmps149
      go_wp2_with (go_at_call 86; refine (inRange_c _ _ _ _).mono ?_; rintro e w' ⟨rfl, rfl⟩)
      go_ret
      exact ⟨rfl, qXo⟩
    · cases h3 : inB (-200) 200 B
      · go_enter Try.func149, Try.ntmps149
        go_wp2_with (go_at_call 86; refine (inRange_c _ _ _ _).mono ?_; rintro e w' ⟨rfl, rfl⟩)
        go_ret
        exact ⟨rfl, qXo⟩
      · cases h4 : (B == 0)
        · have h5 : (B != 0) = true := by simpa using h4
          cases hf
          · cases h6 : (F == 0)
            · cases ht
              all_goals
                go_enter Try.func149, Try.ntmps149
                go_wp2_with (go_at_call 86; refine (inRange_c _ _ _ _).mono ?_; rintro e w' ⟨rfl, rfl⟩)
                go_ret
                exact ⟨rfl, qXo⟩
            · cases ht
              · cases h7 : (T == 0)
                all_goals
                  go_enter Try.func149, Try.ntmps149
                  go_wp2_with (go_at_call 86; refine (inRange_c _ _ _ _).mono ?_; rintro e w' ⟨rfl, rfl⟩)
                  go_ret
                  exact ⟨rfl, qXo⟩
              · go_enter Try.func149, Try.ntmps149
                go_wp2_with (go_at_call 86; refine (inRange_c _ _ _ _).mono ?_; rintro e w' ⟨rfl, rfl⟩)
                go_ret
                exact ⟨rfl, qXo⟩
          · cases ht
            · cases h7 : (T == 0)
              all_goals
                go_enter Try.func149, Try.ntmps149
                go_wp2_with (go_at_call 86; refine (inRange_c _ _ _ _).mono ?_; rintro e w' ⟨rfl, rfl⟩)
                go_ret
                exact ⟨rfl, qXo⟩
            · go_enter Try.func149, Try.ntmps149
              go_wp2_with (go_at_call 86; refine (inRange_c _ _ _ _).mono ?_; rintro e w' ⟨rfl, rfl⟩)
              go_ret
              exact ⟨rfl, qXo⟩
        · have h5 : (B != 0) = false := by simpa using h4
          go_enter Try.func149, Try.ntmps149
          go_wp2_with (go_at_call 86; refine (inRange_c _ _ _ _).mono ?_; rintro e w' ⟨rfl, rfl⟩)
          go_ret
          exact ⟨rfl, qXo⟩

set_option maxHeartbeats 3200000 in
theorem indices_c (n F T B : Int) (hf ht : Bool) (w : World) (hn : 0 ≤ n ∧ n ≤ 200) (hs : sliceB F T B hf ht = true) :
    Calls Try.prog 175 #[.int .i64 n, .agg #[.int .i64 F, .int .i64 T, .int .i64 B, .bool hf, .bool ht]] w (PInts w (idxS n F T B hf ht)) := by
  have hi := sliceB_in hs
  have hF := fromI_in (n := n) (F := F) (B := B) (hf := hf) hn.1
  have hT := toI_in (n := n) (T := T) (B := B) (ht := ht) hn.1
  have hB0 := hi.2.2.2
  have hnum := Lib.hid (fun W => numbers_c (fromI n F B hf) (toI n T B ht) B W (by omega) (by omega) (by omega) hB0)
  obtain ⟨⟨F0, F1⟩, ⟨T0, T1⟩, ⟨B0, B1⟩, -⟩ := hi
  obtain ⟨n0, n1⟩ := hn
  unfold idxS
  clear hs hF hT hB0
  unfold fromI toI at hnum ⊢
  cases hf <;> cases ht <;> by_cases hb : B < 0
  all_goals
    simp only [hb, if_true, if_false, Bool.false_eq_true] at hnum ⊢
    go_enter Try.func175, Try.ntmps175
    go_wp2_with (go_at_call 192; refine (bound_c _ _ _ _ (by omega) (by omega)).mono ?_; rintro e w' ⟨rfl, rfl⟩)
    refine (hnum.out _).mono ?_
    rintro e w1 ⟨v1, rfl, i1, o1, x1⟩
    go_wp2_with fail
    go_ret
    exact PInts.of o1 i1 (Ext.size (show Ext w _ from qXo)) (Ext.trans qXo x1)

end Go.Proofs.Ytfbbnbpobojboaa

/- Plain laws: numbers in a row and their normal range; a view of some indices of a dimension. -/
namespace Go.Proofs.Ytfbbnbpobojboaa
open Go.RowKit
set_option linter.unusedVariables false
set_option maxRecDepth 100000

theorem cnt_of {a b s : Int} (hs : s ≠ 0) {n : Nat} (h : ∀ k : Nat, (0 < s ∧ a + k * s < b ∨ s < 0 ∧ b < a + k * s) ↔ k < n) : cntL a b s = n := by
  have h1 := fun k => (num_step (a := a) (b := b) hs k).symm.trans (h k)
  rcases Nat.lt_trichotomy (cntL a b s) n with h2 | h2 | h2
  · have := (h1 (cntL a b s)).2 h2; omega
  · exact h2
  · have := (h1 n).1 h2; omega
theorem numL_two {a b s : Int} {m : Nat} (hn : cntL a b s = m + 2) : numL a b s = a :: (a + s) :: (List.range m).map fun k : Nat => a + ((k + 2 : Nat) : Int) * s := by
  unfold numL
  rw [hn, show m + 2 = 2 + m by omega, List.range_add, List.map_append, List.map_map]
  simp only [List.range_succ, List.range_zero, List.nil_append, List.cons_append, List.map_cons, List.map_nil]
  refine congr (congrArg _ (by simp)) (congr (congrArg _ (by simp)) ?_)
  refine List.map_congr_left fun k _ => ?_
  simp only [Function.comp]; rw [Nat.add_comm 2 k]
/-- the normal range of numbers in a row has these numbers -/
theorem norm_numL {a b s : Int} (hs : s ≠ 0) : numL (normL (numL a b s)).1 (normL (numL a b s)).2.1 (normL (numL a b s)).2.2 = numL a b s := by
  generalize hn : cntL a b s = n
  match n, hn with
  | 0, hn =>
    have : numL a b s = [] := by unfold numL; rw [hn]; rfl
    rw [this]; rfl
  | 1, hn =>
    have : numL a b s = [a] := by unfold numL; rw [hn]; simp [List.range_succ]
    rw [this]
    show numL a (a + 1) 1 = [a]
    have h2 : cntL a (a + 1) 1 = 1 := cnt_of (by omega) fun k => by omega
    unfold numL; rw [h2]; simp [List.range_succ]
  | m + 2, hn =>
    have e := numL_two hn
    have hl : ((a + s) :: (List.range m).map fun k : Nat => a + ((k + 2 : Nat) : Int) * s).getLast (by simp) = a + ((m + 1 : Nat) : Int) * s := by
      cases m with
      | zero => simp
      | succ m => rw [List.getLast_cons (by simp)]; simp [List.range_succ]; rw [show (m : Int) + 2 = m + 1 + 1 by omega]
    have hst : normL (numL a b s) = (a, if s < 0 then a + ((m + 1 : Nat) : Int) * s - 1 else a + ((m + 1 : Nat) : Int) * s + 1, s) := by
      rw [e, normL, hl, show a + s - a = s by omega]
    rw [hst]
    simp only
    have hc : cntL a (if s < 0 then a + ((m + 1 : Nat) : Int) * s - 1 else a + ((m + 1 : Nat) : Int) * s + 1) s = m + 2 := by
      refine cnt_of hs fun k => ?_
      have hd : ((m + 1 : Nat) : Int) * s - (k : Int) * s = (((m + 1 : Nat) : Int) - k) * s := by rw [Int.sub_mul]
      by_cases hk : k < m + 2
      · have : 0 ≤ ((m + 1 : Nat) : Int) - k := by omega
        rcases Int.lt_or_gt_of_ne hs with h | h
        · have := Int.mul_nonpos_of_nonneg_of_nonpos this (show s ≤ 0 by omega)
          rw [if_pos h]; constructor
          · intro _; exact hk
          · intro _; right; omega
        · have := Int.mul_nonneg this (show 0 ≤ s by omega)
          rw [if_neg (by omega)]; constructor
          · intro _; exact hk
          · intro _; left; omega
      · have h1 : ((m + 1 : Nat) : Int) - k ≤ -1 := by omega
        rcases Int.lt_or_gt_of_ne hs with h | h
        · have := Int.mul_le_mul_of_nonpos_right h1 (show s ≤ 0 by omega)
          rw [if_pos h]; constructor
          · intro h; omega
          · intro h; omega
        · have := Int.mul_le_mul_of_nonneg_right h1 (show 0 ≤ s by omega)
          rw [if_neg (by omega)]; constructor
          · intro h; omega
          · intro h; omega
    have hn2 : numL a b s = (List.range (m + 2)).map fun k : Nat => a + k * s := by unfold numL; rw [hn]
    rw [hn2]
    unfold numL; rw [hc]

/-- the facts of a row of numbers that cutDim asks -/
theorem norm_two {a b s : Int} (hs : s ≠ 0) : ((numL a b s).length ≠ 0 → (normL (numL a b s)).1 = a) ∧ ((numL a b s).length = 0 → (normL (numL a b s)).1 = 0) ∧ (2 ≤ (numL a b s).length → (normL (numL a b s)).2.2 = s) := by
  rw [numL_len]
  generalize hn : cntL a b s = n
  match n, hn with
  | 0, hn =>
    have : numL a b s = [] := by unfold numL; rw [hn]; rfl
    rw [this]; exact ⟨fun h => absurd rfl h, fun _ => rfl, fun h => by omega⟩
  | 1, hn =>
    have : numL a b s = [a] := by unfold numL; rw [hn]; simp [List.range_succ]
    rw [this]; exact ⟨fun _ => rfl, fun h => by omega, fun h => by omega⟩
  | m + 2, hn =>
    have e := numL_two hn
    rw [e]; exact ⟨fun _ => rfl, fun h => by omega, fun _ => by show a + s - a = s; omega⟩

theorem prodL_set (s : List Int) (d : Nat) (x : Int) (hd : d < s.length) : prodL (s.set d x) = prodL (s.take d) * (x * prodL (s.drop (d+1))) := by
  have := prodL_split (s.set d x) d (by simpa using hd)
  rw [this, List.getElem_set_self, List.take_set_of_le (Nat.le_refl d), List.drop_set_of_lt (Nat.lt_succ_self d)]

/-- indices of a view whose dimension d has other indices: the cell is the cell of that index -/
theorem ix_at : ∀ (s r : List Int) (d : Nat) (n : Int), IxOf (s.set d n) r → d < s.length → ∀ x, 0 ≤ x → x < s.getD d 0 → IxOf s (r.set d x)
  | [], _, d, _, _, h, _, _, _ => by simp at h
  | e :: s, [], 0, n, h, _, _, _, _ => h.elim
  | e :: s, [], d+1, n, h, _, _, _, _ => h.elim
  | e :: s, y :: r, 0, n, h, _, x, h0, h1 => ⟨⟨h0, by simpa using h1⟩, h.2⟩
  | e :: s, y :: r, d+1, n, h, hd, x, h0, h1 => ⟨h.1, ix_at s r d n h.2 (by simpa using hd) x h0 (by simpa using h1)⟩
theorem dotC_cut : ∀ (r t : List Int) (d : Nat) (b c x y : Int), d < r.length → r.length = t.length → c + r.getD d 0 * x = y * t.getD d 0 → dotC (b + c) r (t.set d x) = dotC b (r.set d y) t
  | [], _, d, _, _, _, _, h, _, _ => by simp at h
  | q :: r, [], _, _, _, _, _, _, h, _ => by cases h
  | q :: r, u :: t, 0, b, c, x, y, _, _, h => by
    simp only [List.getD_cons_zero, List.set_cons_zero, dotC] at h ⊢
    rw [dotC_add]; omega
  | q :: r, u :: t, d+1, b, c, x, y, hd, hl, h => by
    simp only [List.getD_cons_succ, List.set_cons_succ, dotC] at h ⊢
    rw [dotC_cut r t d b c x y (by simpa using hd) (by simpa using hl) h]
/-- a view of some indices of dimension d (numbers L0, L0 + q, .. of them n): its cells are cells of the view -/
theorem cut_mem {b : Int} {s t : List Int} {d : Nat} {L0 q : Int} {n : Nat} (hl : t.length = s.length) (hd : d < s.length) (hn : ∀ i : Nat, i < n → 0 ≤ L0 + i * q ∧ L0 + i * q < s.getD d 0) :
    ∀ y ∈ offC (b + L0 * t.getD d 0) (s.set d n) (t.set d (q * t.getD d 0)), y ∈ offC b s t := by
  intro y hy
  unfold offC at hy ⊢
  rw [List.mem_map] at hy ⊢
  obtain ⟨r, hr, rfl⟩ := hy
  have hix := (mem_idxR _ _).1 hr
  have hrl : r.length = s.length := by have := hix.len; simpa using this
  obtain ⟨g0, g1⟩ := ix_get _ _ d hix (by simpa using hd)
  have hset : (s.set d (n : Int)).getD d 0 = n := by simp [hd]
  rw [hset] at g1
  obtain ⟨i, hi⟩ : ∃ i : Nat, r.getD d 0 = i := ⟨(r.getD d 0).toNat, by omega⟩
  have hin := hn i (by omega)
  refine ⟨r.set d (L0 + i * q), (mem_idxR _ _).2 (ix_at s r d n hix hd _ hin.1 hin.2), ?_⟩
  refine (dotC_cut r t d b _ _ _ (by omega) (by omega) ?_).symm
  rw [hi, Int.add_mul, Int.mul_assoc]

theorem dotC_zero : ∀ (n : Nat) (t : List Int) (b : Int), dotC b (List.replicate n 0) t = b
  | 0, t, b => by cases t <;> rfl
  | n+1, [], b => rfl
  | n+1, x :: t, b => by rw [List.replicate_succ, dotC, dotC_zero n t b]; omega
theorem ix_zero : ∀ (s : List Int), (∀ e ∈ s, 1 ≤ e) → IxOf s (List.replicate s.length 0)
  | [], _ => trivial
  | e :: s, h => ⟨by have := h e (List.mem_cons_self ..); omega, ix_zero s fun q hq => h q (List.mem_cons_of_mem _ hq)⟩
theorem off_zero {s t : List Int} (b : Int) (h : ∀ e ∈ s, 1 ≤ e) : b ∈ offC b s t := by
  unfold offC; rw [List.mem_map]
  exact ⟨_, (mem_idxR _ _).2 (ix_zero s h), dotC_zero _ _ _⟩
theorem off_unit {s t : List Int} (b : Int) (h : ∀ e ∈ s, 1 ≤ e) (hl : t.length = s.length) (d : Nat) (hd : d < s.length) (h2 : 2 ≤ s.getD d 0) : b + t.getD d 0 ∈ offC b s t := by
  unfold offC; rw [List.mem_map]
  refine ⟨(List.replicate s.length 0).set d 1, (mem_idxR _ _).2 (ix_set s _ d 1 (ix_zero s h) hd (by omega) (by omega)), ?_⟩
  rw [dotC_set _ _ _ _ _ (by simpa using hd) (by simp [hl]), dotC_zero]
  simp [hd]

theorem small_set {s : List Int} (h : Small s) (d : Nat) {x : Int} (hx : 0 ≤ x ∧ x ≤ 60) : Small (s.set d x) :=
  ⟨by rw [List.length_set]; exact h.1, fun e he => by
    rcases List.mem_or_eq_of_mem_set he with h' | h'
    · exact h.2 e h'
    · rw [h']; exact hx⟩
theorem count_set_le {s : List Int} (h : Small s) (d : Nat) (hd : d < s.length) {x : Int} (hx : 0 ≤ x ∧ x ≤ s.getD d 0) : countL (s.set d x) ≤ countL s := by
  have he := h.2 (s.getD d 0) (by simp [hd])
  have hs' := small_set h d (x := x) (by omega)
  rw [hs'.count.1, h.count.1, prodL_set s d x hd, prodL_split s d hd]
  have a1 : 0 ≤ prodL (s.take d) := prodL_nonneg fun e he => (h.2 e (List.mem_of_mem_take he)).1
  have a2 : 0 ≤ prodL (s.drop (d+1)) := prodL_nonneg fun e he => (h.2 e (List.mem_of_mem_drop he)).1
  refine Int.mul_le_mul_of_nonneg_left (Int.mul_le_mul_of_nonneg_right ?_ a2) a1
  have : s.getD d 0 = s[d] := by simp [hd]
  omega
theorem getD_mem {s : List Int} {d : Nat} (hd : d < s.length) : s.getD d 0 ∈ s := by
  have : s.getD d 0 = s[d] := by simp [hd]
  rw [this]; exact List.getElem_mem hd

/-- what cutDim gives: base, shape, strides -/
def cutB (b : Int) (s t : List Int) (d : Nat) (L : List Int) : Int := tidyB (b + (normL L).1 * t.getD d 0) (s.set d L.length)
def cutS (s : List Int) (d : Nat) (L : List Int) : List Int := s.set d L.length
def cutT (s t : List Int) (d : Nat) (L : List Int) : List Int := tidyT (s.set d L.length) (t.set d (if L.length ≤ 1 then 0 else (normL L).2.2 * t.getD d 0))

/-- some numbers in a row within n: no more than n of them -/
theorem num_len_le {a e q n : Int} (hq : q ≠ 0) (h : ∀ i ∈ numL a e q, 0 ≤ i ∧ i < n) : ((numL a e q).length : Int) ≤ n ∨ (numL a e q).length = 0 := by
  rw [numL_len]
  generalize hc : cntL a e q = m
  match m, hc with
  | 0, _ => right; rfl
  | m+1, hc =>
    left
    have g0 := h a (by unfold numL; rw [hc, List.mem_map]; exact ⟨0, by simp, by simp⟩)
    have g1 := h (a + (m : Int) * q) (by unfold numL; rw [hc, List.mem_map]; exact ⟨m, by simp, rfl⟩)
    rcases Int.lt_or_gt_of_ne hq with h' | h'
    · have := Int.mul_le_mul_of_nonneg_left (show q ≤ -1 by omega) (show (0 : Int) ≤ (m : Int) by omega)
      omega
    · have := Int.mul_le_mul_of_nonneg_left (show 1 ≤ q by omega) (show (0 : Int) ≤ (m : Int) by omega)
      omega

theorem cut_view {b : Int} {s t : List Int} {d : Nat} {a e q : Int} (h : viewB b s t = true) (hd : d < s.length) (hq : q ≠ 0) (hL : ∀ i ∈ numL a e q, 0 ≤ i ∧ i < s.getD d 0) :
    viewB (cutB b s t d (numL a e q)) (cutS s d (numL a e q)) (cutT s t d (numL a e q)) = true ∧ ((numL a e q).length : Int) ≤ 60 := by
  obtain ⟨h1, h2, h3, h4, h5⟩ := viewB_in h
  have hs := Small.of h1
  have he := hs.2 _ (getD_mem hd)
  have hlen : 0 ≤ ((numL a e q).length : Int) ∧ ((numL a e q).length : Int) ≤ s.getD d 0 := by
    rcases num_len_le hq hL with h' | h' <;> omega
  obtain ⟨n1, n2, n3⟩ := norm_two (a := a) (b := e) hq
  have hsm := small_set hs d (x := ((numL a e q).length : Int)) (by omega)
  have hcle := count_set_le hs d hd hlen
  have hc60 := (shapeB_in h1).2.2.2.1
  have hsh := shapeB_mk hsm (by omega)
  refine ⟨?_, by omega⟩
  unfold cutB cutS cutT tidyB tidyT
  by_cases hc : countL (s.set d ((numL a e q).length : Int)) = 0
  · rw [if_pos hc, if_pos hc]
    refine (viewB_zero hc).2 ⟨hsh, by simp, by omega, fun x hx => ?_⟩
    have := List.eq_of_mem_replicate hx; omega
  · rw [if_neg hc, if_neg hc]
    obtain ⟨k1, k2, k3, k4⟩ := hsm.count
    have hp := k4 (by omega)
    have hn0 : (numL a e q).length ≠ 0 := by
      intro h0
      have := hp ((numL a e q).length : Int) (by rw [List.mem_iff_getElem]; exact ⟨d, by simpa using hd, by simp⟩)
      omega
    rw [n1 hn0]
    -- the cells are cells of the view
    have key : ∀ y ∈ offC (b + a * t.getD d 0) (s.set d ((numL a e q).length : Int)) (t.set d (if (numL a e q).length ≤ 1 then 0 else (normL (numL a e q)).2.2 * t.getD d 0)), 0 ≤ y ∧ y ≤ 59 := by
      intro y hy
      have hget : ∀ i : Nat, i < (numL a e q).length → 0 ≤ a + i * q ∧ a + i * q < s.getD d 0 := fun i hi => by
        have := hL ((numL a e q)[i]) (List.getElem_mem hi)
        rwa [numL_get] at this
      have hy' : y ∈ offC b s t := by
        by_cases hle : (numL a e q).length ≤ 1
        · rw [if_pos hle] at hy
          refine cut_mem (L0 := a) (q := 0) (n := (numL a e q).length) h2 hd (fun i hi => ?_) y (by rw [Int.zero_mul]; exact hy)
          have := hget i hi
          obtain rfl : i = 0 := by omega
          omega
        · rw [if_neg hle, n3 (by omega)] at hy
          exact cut_mem (L0 := a) (q := q) (n := (numL a e q).length) h2 hd hget y hy
      rw [← view_C h] at hy'
      exact h5 y hy'
    have hb := key _ (off_zero _ hp)
    refine viewB_mk hsh (by simp [h2]) (by omega) (fun x hx => ?_) ?_
    · rcases List.mem_or_eq_of_mem_set hx with h' | h'
      · exact h4 x h'
      · by_cases hle : (numL a e q).length ≤ 1
        · rw [if_pos hle] at h'; omega
        · have hu := key _ (off_unit _ hp (by simp [h2]) d (by simpa using hd) (by simp [hd]; omega))
          simp only [List.getD_eq_getElem?_getD, List.getElem?_set_self (show d < t.length by omega), Option.getD_some] at hu
          simp only [List.getD_eq_getElem?_getD] at h' hb hu
          omega
    · rw [offs_C hsm ⟨by omega, fun x hx => ?_⟩]
      · exact key
      · rcases List.mem_or_eq_of_mem_set hx with h' | h'
        · have := h4 x h'; omega
        · by_cases hle : (numL a e q).length ≤ 1
          · rw [if_pos hle] at h'; omega
          · have hu := key _ (off_unit _ hp (by simp [h2]) d (by simpa using hd) (by simp [hd]; omega))
            simp only [List.getD_eq_getElem?_getD, List.getElem?_set_self (show d < t.length by omega), Option.getD_some] at hu
            simp only [List.getD_eq_getElem?_getD] at h' hb hu
            omega

/-- where an element lies -/
theorem Ints.at {w : World} {lo : Nat} {a : Option Addr} {n c : Nat} {xs : List Int} (h : Ints w lo (.slice a n c) xs) (i : Nat) (hi : i < xs.length) : ∃ b off, a = some ⟨b, off, none⟩ ∧ w.cell? ⟨b, off + i, none⟩ = some (.int .i64 (xs.getD i 0)) := by
  obtain ⟨a', cap, hv, h1, h2, h3, h4⟩ := h
  cases hv
  obtain ⟨b, off, ha, hb, hc, hf⟩ := h4 i hi
  exact ⟨b, off, ha, hc⟩

end Go.Proofs.Ytfbbnbpobojboaa

/- A region that draws its order, shown once for every order: each operation is shown at whatever world may stand when it comes up, from what those told that it waits for; what each tells must last. No condition. -/
namespace Go.Proofs.Ytfbbnbpobojboaa.RG
open Go
set_option linter.unusedVariables false
section
variable {P : Program} {ops : Array Oper} {md : Region.Mode}

def dst (ops : Array Oper) (i : Nat) : Option Tmp := (ops[i]?).bind (·.dst)
/-- facts told one by one -/
def Alls (F : Nat → Prop) : Nat → Nat → Prop
  | _, 0 => True
  | k, m+1 => F k ∧ Alls F (k+1) m
theorem Alls.mk {F : Nat → Prop} : ∀ (m k : Nat), (∀ i, i < m → F (k + i)) → Alls F k m
  | 0, k, _ => trivial
  | m+1, k, h => ⟨h 0 (by omega), Alls.mk m (k+1) fun i hi => by have := h (i+1) (by omega); rwa [show k + (i + 1) = k + 1 + i by omega] at this⟩

end
end Go.Proofs.Ytfbbnbpobojboaa.RG

/- Walks: the reader of the drawn arguments: its numbers. -/
namespace Go.Proofs.Ytfbbnbpobojboaa
open Go.RowKit
set_option linter.unusedVariables false
set_option maxRecDepth 100000

/-- a slice of a few bytes, in blocks below hi -/
def Bys (w : World) (hi : Nat) (a : Option Addr) (n cap : Nat) : Prop :=
  n ≤ cap ∧ cap ≤ maxLen ∧ n ≤ 2000 ∧ ∀ i, i < n → ∃ b off x, a = some ⟨b, off, none⟩ ∧ b < hi ∧ w.cell? ⟨b, off + i, none⟩ = some (.int .u8 x) ∧ 0 ≤ x ∧ x < 256
/-- the reader at block rb, of which at most k numbers were asked -/
structure Rd (w : World) (rb k : Nat) : Prop where
  ex : ∃ a n cap p, (0 ≤ p ∧ p ≤ (k : Int)) ∧ w.cell? ⟨rb, 0, none⟩ = some (.slice a n cap) ∧ w.cell? ⟨rb, 1, none⟩ = some (.int .i64 p) ∧ w.frozen? ⟨rb, 1, none⟩ = false ∧ Bys w rb a n cap
theorem Bys.chg {w w' : World} {hi lo h2 : Nat} {a : Option Addr} {n cap : Nat} (h : Bys w hi a n cap) (k : Chg lo h2 w w') (hl : hi ≤ lo) : Bys w' hi a n cap := by
  obtain ⟨h1, h2, h3, h4⟩ := h
  refine ⟨h1, h2, h3, fun i hi => ?_⟩
  obtain ⟨b, off, x, ha, hb, hc, hx⟩ := h4 i hi
  exact ⟨b, off, x, ha, hb, k.cell (.inl (by omega)) hc, hx⟩
theorem Rd.ext {w w' : World} {rb k : Nat} (h : Rd w rb k) (hx : Ext w w') : Rd w' rb k := by
  obtain ⟨a, n, cap, p, hp, h0, h1, h2, hb⟩ := h.ex
  refine ⟨a, n, cap, p, hp, hx.cell h0, hx.cell h1, (hx.frule rb 1 (qB h1)).trans h2, ?_⟩
  obtain ⟨g1, g2, g3, g4⟩ := hb
  refine ⟨g1, g2, g3, fun i hi => ?_⟩
  obtain ⟨b, off, x, ha, hbb, hc, hxx⟩ := g4 i hi
  exact ⟨b, off, x, ha, hbb, hx.cell hc, hxx⟩
theorem Rd.mono {w : World} {rb k k' : Nat} (h : Rd w rb k) (hk : k ≤ k') : Rd w rb k' := by
  obtain ⟨a, n, cap, p, hp, r⟩ := h.ex
  exact ⟨a, n, cap, p, by omega, r⟩
theorem Rd.lt {w : World} {rb k : Nat} (h : Rd w rb k) : rb < w.heap.size := by
  obtain ⟨a, n, cap, p, hp, h0, _⟩ := h.ex
  exact qB h0
/-- cells of other blocks than the reader's -/
theorem Rd.chgO {w w' : World} {rb k lo hi : Nat} (h : Rd w rb k) (c : Chg lo hi w w') (hl : rb < lo) : Rd w' rb k := by
  obtain ⟨a, n, cap, p, hp, h0, h1, h2, hb⟩ := h.ex
  refine ⟨a, n, cap, p, hp, c.cell (.inl hl) h0, c.cell (.inl hl) h1, ?_, hb.chg c (by omega)⟩
  exact (World.frozen?_of_block (a := ⟨rb, 1, none⟩) (c.block rb (qB h1) (.inl hl))).trans h2

/-- the bytes that the law was called with -/
def BysIn (w : World) (a : Option Addr) (n cap : Nat) : Prop :=
  n ≤ cap ∧ cap ≤ maxLen ∧ ∀ i, i < n → ∃ b off x, a = some ⟨b, off, none⟩ ∧ w.cell? ⟨b, off + i, none⟩ = some (.int .u8 x) ∧ 0 ≤ x ∧ x < 256
theorem Rd.alloc {w : World} {rb k : Nat} (h : Rd w rb k) (o : Obj) : Rd (w.alloc o) rb k := h.ext ((Ext.refl _).alloc _)
theorem Rd.drew {w : World} {rb k : Nat} (h : Rd w rb k) : Rd w.drew rb k := h.ext ((Ext.refl _).drew)
theorem Rd.drewN {w : World} {rb k : Nat} (h : Rd w rb k) (n : Nat) : Rd (w.drewN n) rb k := h.ext ((Ext.refl _).drewN n)
theorem Rd.set {w : World} {rb k : Nat} {a : Addr} (h : Rd w rb k) (ha : rb < a.block) (u : Value) : Rd (w.setCell a u) rb k :=
  h.chgO ((Chg.refl a.block (a.block + 1) w).setCell (p := a) (Nat.le_refl _) (Nat.lt_succ_self _) u) ha
theorem Rd.set2 {w : World} {rb k : Nat} {a : Addr} {u : Value} (ha : rb < a.block) (h : Rd w rb k) : Rd (w.setCell a u) rb k := h.set ha u
/-- what was there before, but the reader, is as it was -/
def Rch (rb : Nat) (w w' : World) : Prop := Chg rb (rb + 1) w w'
theorem Rch.refl (rb : Nat) (w : World) : Rch rb w w := Chg.refl _ _ _
theorem Rch.step {rb : Nat} {w a b : World} (h : Rch rb w a) (k : Chg rb (rb + 1) a b) : Rch rb w b := Chg.trans h k
theorem Rch.alloc {rb : Nat} {w w' : World} (h : Rch rb w w') (o : Obj) : Rch rb w (w'.alloc o) := Chg.ext h ((Ext.refl _).alloc _)
theorem Rch.drew {rb : Nat} {w w' : World} (h : Rch rb w w') : Rch rb w w'.drew := Chg.ext h ((Ext.refl _).drew)
theorem Rch.drewN {rb : Nat} {w w' : World} (h : Rch rb w w') (n : Nat) : Rch rb w (w'.drewN n) := Chg.ext h ((Ext.refl _).drewN n)
theorem Rch.ext {rb : Nat} {w w' w'' : World} (h : Rch rb w w') (k : Ext w' w'') : Rch rb w w'' := Chg.ext h k
theorem Rch.set {rb : Nat} {w w' : World} (h : Rch rb w w') {a : Addr} (ha : w.heap.size ≤ a.block) (u : Value) : Rch rb w (w'.setCell a u) :=
  ⟨h.os, h.tape, h.output, by simpa using h.size, fun k hk hd => (Below.heap_setCell _ _ _ _ (by omega)).trans (h.block k hk hd)⟩
theorem Rch.size {rb : Nat} {w w' : World} (h : Rch rb w w') : w.heap.size ≤ w'.heap.size := Chg.size h
theorem Rch.rule {rb : Nat} {w w' : World} (h : Chg rb (rb + 1) w w') : ∀ b o, rb < b → b < w.heap.size → w'.cell? ⟨b, o, none⟩ = w.cell? ⟨b, o, none⟩ := fun b o h1 h2 => World.cell?_of_block (a := ⟨b, o, none⟩) (h.block b h2 (.inr h1))
theorem Rch.frule {rb : Nat} {w w' : World} (h : Chg rb (rb + 1) w w') : ∀ b o, rb < b → b < w.heap.size → w'.frozen? ⟨b, o, none⟩ = w.frozen? ⟨b, o, none⟩ := fun b o h1 h2 => World.frozen?_of_block (a := ⟨b, o, none⟩) (h.block b h2 (.inr h1))

/-- three numbers at a block -/
def RgAt (w : World) (g : Nat) : Prop := ∃ x y z : Int, w.cell? ⟨g, 0, none⟩ = some (.int .i64 x) ∧ w.cell? ⟨g, 1, none⟩ = some (.int .i64 y) ∧ w.cell? ⟨g, 2, none⟩ = some (.int .i64 z) ∧ w.frozen? ⟨g, 0, none⟩ = false ∧ w.frozen? ⟨g, 1, none⟩ = false ∧ w.frozen? ⟨g, 2, none⟩ = false
theorem RgAt.lt {w : World} {g : Nat} (h : RgAt w g) : g < w.heap.size := by obtain ⟨x, y, z, h, _⟩ := h; exact qB h

theorem BysIn.ext {w w' : World} {a : Option Addr} {n cap : Nat} (h : BysIn w a n cap) (hx : Ext w w') : BysIn w' a n cap := by
  obtain ⟨h1, h2, h3⟩ := h
  refine ⟨h1, h2, fun i hi => ?_⟩
  obtain ⟨b, off, x, ha, hc, hx2⟩ := h3 i hi
  exact ⟨b, off, x, ha, hx.cell hc, hx2⟩

end Go.Proofs.Ytfbbnbpobojboaa

/- A region that draws its order, some reads taken first under a condition on the world, which need not last behind the operations that wait for all those reads (a store to a cell that is read). No condition. -/
namespace Go.Proofs.Ytfbbnbpobojboaa
open Go
set_option linter.unusedVariables false
section
variable {P : Program} {ops : Array Oper} {Q : Exit → Act → World → Prop} {md : Region.Mode} {S : World → Prop} {tl : Nat → Bool}

/-- whatever order is picked; the condition holds behind each operation but those of tl -/
def wpTail (P : Program) (md : Region.Mode) (ops : Array Oper) (Q : Exit → Act → World → Prop) (S : World → Prop) (tl : Nat → Bool) : Nat → Array Bool → Act → World → Prop
  | 0, listed, a, w => Region.ready md ops listed = [] ∧ Q .normal a w
  | n + 1, listed, a, w =>
    (Region.ready md ops listed = [] → Q .normal a w) ∧
    ∀ i ∈ Region.ready md ops listed, wpOp P ops Q i (fun a' w' => (tl i = false → S w') ∧ wpTail P md ops Q S tl n (listed.setIfInBounds i true) a' w') a w

theorem wpTail.any : ∀ (n : Nat) (listed : Array Bool) (a : Act) (w : World), wpTail P md ops Q S tl n listed a w → wpAny P md ops Q n listed a w
  | 0, _, _, _, h => h
  | n + 1, _, _, _, h => ⟨h.1, fun i hi => wpOp_mono (fun a' w' h' => wpTail.any n _ a' w' h'.2) (h.2 i hi)⟩

/-- what waits for i -/
def waitsB (md : Region.Mode) (ops : Array Oper) (tl : Nat → Bool) (i : Nat) : Bool :=
  (List.range ops.size).all fun j => !tl j || (match ops[j]? with | some o => o.after.toList.any fun e => Region.binds md e && e.on == i | none => true)

theorem wpTail.first {i : Nat} {oi : Oper} {v : Value} (hi : ops[i]? = some oi) (hsel : ∀ (j : Nat) (o : Oper) cs b, ops[j]? = some o → o.op ≠ .select cs b)
    (hQ : ∀ c a w, Q (.panic c) (a.put oi.dst v) w → Q (.panic c) a w) (hti : tl i = false) (hwt : waitsB md ops tl i = true) :
    ∀ (n : Nat) (listed : Array Bool) (a : Act) (w : World),
      (∀ j oj, ops[j]? = some oj → j ≠ i → listed.getD j true = false → (∀ e ∈ oj.after, Region.binds md e = true → e.on ≠ i) → oi.apart ops oj = true) →
      i ∈ Region.ready md ops listed → YieldsIf P ops S oi v a → S w →
      wpTail P md ops Q S tl n (listed.setIfInBounds i true) (a.put oi.dst v) w → wpTail P md ops Q S tl (n + 1) listed a w := by
  intro n
  induction n with
  | zero =>
    intro listed a w _ hr hy hS H
    refine ⟨fun h => (by rw [h] at hr; cases hr), fun j hj => ?_⟩
    by_cases hji : j = i
    · subst hji; exact hy.wpOp hi hS ⟨fun _ => hS, H⟩
    · have h0 := ready_mono hj hji
      rw [H.1] at h0
      cases h0
  | succ n ih =>
    intro listed a w hfree hr hy hS H
    refine ⟨fun h => (by rw [h] at hr; cases hr), fun j hj => ?_⟩
    by_cases hji : j = i
    · subst hji; exact hy.wpOp hi hS ⟨fun _ => hS, H⟩
    · have h1 := H.2 j (ready_mono hj hji)
      obtain ⟨hjun, oj, hoj, hall⟩ := mem_ready.1 hj
      have hnot : ∀ e ∈ oj.after, Region.binds md e = true → e.on ≠ i := fun e he hb heq => by
        have h3 := hall e he hb
        have h4 := (mem_ready.1 hr).1
        rw [heq] at h3
        rcases Nat.lt_or_ge i listed.size with h' | h'
        · simp [h'] at h3 h4; rw [h4] at h3; cases h3
        · simp [Array.getElem?_eq_none h'] at h3
      have htj : tl j = false := by
        cases ht : tl j with
        | false => rfl
        | true =>
          have hlt := (Array.getElem?_eq_some_iff.1 hoj).1
          unfold waitsB at hwt
          rw [List.all_eq_true] at hwt
          have h5 := hwt j (List.mem_range.2 hlt)
          rw [ht, hoj] at h5
          simp only [Bool.not_true, Bool.false_or, List.any_eq_true, Bool.and_eq_true, beq_iff_eq] at h5
          obtain ⟨e, he, hb, hon⟩ := h5
          exact absurd hon (hnot e (by simpa using he) hb)
      have h2 := wpOp_putIf hoj (hfree j oj hoj hji hjun hnot) (fun cs b => hsel i oi cs b hi) (fun cs b => hsel j oj cs b hoj) hQ hy h1
      have hfree' : ∀ k ok, ops[k]? = some ok → k ≠ i → (listed.setIfInBounds j true).getD k true = false →
          (∀ e ∈ ok.after, Region.binds md e = true → e.on ≠ i) → oi.apart ops ok = true := fun k ok hk hki hun hno => by
        refine hfree k ok hk hki ?_ hno
        by_cases hjk : j = k
        · subst hjk; exact hjun
        · rw [getD_set_ne true hjk] at hun; exact hun
      refine wpOp_mono (fun a' w' h3 => ⟨h3.2.1, ih (listed.setIfInBounds j true) a' w' hfree' (ready_mono hr (Ne.symm hji)) h3.1 (h3.2.1 htj) ?_⟩) h2
      rw [Array.setIfInBounds_comm _ _ hji]
      exact h3.2.2

theorem wpTail_take {i : Nat} {oi : Oper} {v : Value} {n : Nat} {listed : Array Bool} {a : Act} {w : World} (hi : ops[i]? = some oi)
    (hs : Region.noSelect ops = true) (hf : Region.free md ops listed i = true) (hr : (Region.ready md ops listed).contains i = true) (hti : tl i = false) (hwt : waitsB md ops tl i = true)
    (hQ : ∀ c a w, Q (.panic c) (a.put oi.dst v) w → Q (.panic c) a w) (hy : YieldsIf P ops S oi v a) (hS : S w)
    (h : wpTail P md ops Q S tl n (listed.setIfInBounds i true) (a.put oi.dst v) w) : wpTail P md ops Q S tl (n + 1) listed a w :=
  wpTail.first hi (Region.noSelect_spec hs) hQ hti hwt n listed a w (Region.free_spec hi hf) (by simpa using hr) hy hS h

theorem qTk {oi : Oper} {v : Value} {n : Nat} {listed : Array Bool} {a : Act} {w : World} (i : Nat) (hi : ops[i]? = some oi) (hy : YieldsIf P ops S oi v a)
    (h : wpTail P md ops Q S tl n (listed.setIfInBounds i true) (a.put oi.dst v) w)
    (hs : Region.noSelect ops = true := by kernel_rfl) (hf : Region.free md ops listed i = true := by kernel_rfl) (hr : (Region.ready md ops listed).contains i = true := by kernel_rfl) (hti : tl i = false := by rfl) (hwt : waitsB md ops tl i = true := by kernel_rfl)
    (hQ : ∀ c a w, Q (.panic c) (a.put oi.dst v) w → Q (.panic c) a w := by exact fun _ _ _ h => h) (hS : S w := by assumption) :
    wpTail P md ops Q S tl (n + 1) listed a w := wpTail_take hi hs hf hr hti hwt hQ hy hS h
/-- one operation comes up, and no other can -/
theorem wpTail_one {i : Nat} {o : Oper} {n : Nat} {listed : Array Bool} {a : Act} {w : World} (hr : Region.ready md ops listed = [i]) (ho : ops[i]? = some o) (ht : tl i = false)
    (h : ∀ K' : Act → World → Prop, Shut (∀ a w, S w → (S w → wpTail P md ops Q S tl n (listed.setIfInBounds i true) a w) → K' a w) → if Region.wanted o (yielded ops a.tmps) = true then Oper.wp P o a w K' Q else K' (a.put o.dst undef) w) :
    wpTail P md ops Q S tl (n + 1) listed a w := by
  refine ⟨fun h0 => (by rw [h0] at hr; cases hr), ?_⟩
  rw [hr]
  intro j hj
  obtain rfl : j = i := by simpa using hj
  exact wpOp_step ho (fun K' hK => h K' (fun a w hS hW => hK a w ⟨fun _ => hS, hW hS⟩))
/-- an operation that the condition need not outlast comes up, and no other can -/
theorem wpTail_last {i : Nat} {o : Oper} {n : Nat} {listed : Array Bool} {a : Act} {w : World} (hr : Region.ready md ops listed = [i]) (ho : ops[i]? = some o) (ht : tl i = true)
    (h : ∀ K' : Act → World → Prop, Shut (∀ a w, wpTail P md ops Q S tl n (listed.setIfInBounds i true) a w → K' a w) → if Region.wanted o (yielded ops a.tmps) = true then Oper.wp P o a w K' Q else K' (a.put o.dst undef) w) :
    wpTail P md ops Q S tl (n + 1) listed a w := by
  refine ⟨fun h0 => (by rw [h0] at hr; cases hr), ?_⟩
  rw [hr]
  intro j hj
  obtain rfl : j = i := by simpa using hj
  exact wpOp_step ho (fun K' hK => h K' (fun a w hW => hK a w ⟨(fun h => (by rw [ht] at h; cases h)), hW⟩))
theorem wpTail_done {listed : Array Bool} {a : Act} {w : World} (hr : Region.ready md ops listed = []) (h : Q .normal a w) : ∀ n, wpTail P md ops Q S tl n listed a w
  | 0 => ⟨hr, h⟩
  | _ + 1 => ⟨fun _ => h, by rw [hr]; simp⟩
theorem wp_region_tail {id : Nat} {a : Act} {w : World} (tl : Nat → Bool) (hm : P.follows .mixedOrders = true) (hS : S w.drew)
    (h : S w.drew → wpTail P .any ops Q S tl ops.size (Array.replicate ops.size false) a w.drew) : (Code.region id ops true).wp P Q a w :=
  wp_region_any hm (wpTail.any _ _ _ _ (h hS))
end
end Go.Proofs.Ytfbbnbpobojboaa

/- Words for walks: rows beside changed blocks, where elements lie, normal ranges. No condition. -/
namespace Go.Proofs.Ytfbbnbpobojboaa
open Go.RowKit
set_option linter.unusedVariables false
set_option maxRecDepth 100000

theorem Chg.frzO {lo hi : Nat} {w w' : World} (k : Chg lo hi w w') {b o : Nat} {f : Bool} (hd : b < lo ∨ hi ≤ b) (hb : b < w.heap.size) (hf : w.frozen? ⟨b, o, none⟩ = f) : w'.frozen? ⟨b, o, none⟩ = f :=
  (World.frozen?_of_block (a := ⟨b, o, none⟩) (k.block b hb hd)).trans hf
theorem OwnI.chgN {lo hi base g n c : Nat} {w w' : World} {xs : List Int} (h : OwnI w base (.slice (some ⟨g, 0, none⟩) n c) xs) (k : Chg lo hi w w') (hd : g < lo ∨ hi ≤ g) : OwnI w' base (.slice (some ⟨g, 0, none⟩) n c) xs := by
  refine ⟨h.1, ?_⟩
  rcases h.2 with ⟨h2, _⟩ | ⟨g', cap, cur, hv, hg, hh, r⟩
  · cases h2
  · cases hv
    exact .inr ⟨g, _, cur, rfl, hg, (k.block g (Array.getElem?_eq_some_iff.1 hh).1 hd).trans hh, r⟩
theorem OwnI.set {base g n c : Nat} {w : World} {xs : List Int} (h : OwnI w base (.slice (some ⟨g, 0, none⟩) n c) xs) (i : Nat) (x : Int) (hi : i < xs.length) : OwnI (w.setCell ⟨g, i, none⟩ (.int .i64 x)) base (.slice (some ⟨g, 0, none⟩) n c) (xs.set i x) := by
  have hn : n = xs.length := by
    rcases h.2 with ⟨h2, _⟩ | ⟨g', cap, cur, hv, _⟩
    · cases h2
    · cases hv; rfl
  subst hn
  unfold OwnI
  rw [List.length_set]
  exact own_set h i x hi
theorem OwnI.setD {base g n c : Nat} {w : World} {xs : List Int} (h : OwnI w base (.slice (some ⟨g, 0, none⟩) n c) xs) (i : Nat) (x : Int) (hi : i < xs.length) : OwnI (w.setCell ⟨g, i, none⟩ (.int .i64 x)).drew base (.slice (some ⟨g, 0, none⟩) n c) (xs.set i x) :=
  (OwnI.set h i x hi).ext (Ext.drew (Ext.refl _))
theorem OwnI.cell {base g n c : Nat} {w : World} {xs : List Int} (h : OwnI w base (.slice (some ⟨g, 0, none⟩) n c) xs) (i : Nat) (hi : i < xs.length) : w.cell? ⟨g, i, none⟩ = some (.int .i64 (xs.getD i 0)) ∧ w.frozen? ⟨g, i, none⟩ = false := by
  have hn : n = xs.length := by
    rcases h.2 with ⟨h2, _⟩ | ⟨g', cap, cur, hv, _⟩
    · cases h2
    · cases hv; rfl
  subst hn
  exact own_cell h i hi
theorem OwnI.len {base g n c : Nat} {w : World} {xs : List Int} (h : OwnI w base (.slice (some ⟨g, 0, none⟩) n c) xs) (hn : n ≤ 4194304 := by omega) : xs.length ≤ 4194304 := by
  rcases h.2 with ⟨h2, _⟩ | ⟨g', cap, cur, hv, _⟩
  · cases h2
  · cases hv; exact hn
theorem OwnI.any {base : Nat} {w : World} {v : Value} {xs : List Int} (h : OwnI w base v xs) : ∃ a n c, v = .slice a n c := by
  rcases h.2 with ⟨rfl, _⟩ | ⟨g', cap, cur, rfl, _⟩
  · exact ⟨_, _, _, rfl⟩
  · exact ⟨_, _, _, rfl⟩
theorem Ints.any {lo : Nat} {w : World} {v : Value} {xs : List Int} (h : Ints w lo v xs) : ∃ a n c, v = .slice a n c := by
  obtain ⟨a, c, rfl, _⟩ := h
  exact ⟨_, _, _, rfl⟩
theorem below_frz {B : Nat} {w w' : World} (h : Below B w w') {b o : Nat} {f : Bool} (hb : b < B) (hc : w.frozen? ⟨b, o, none⟩ = f) : w'.frozen? ⟨b, o, none⟩ = f :=
  (Below.frozen (p := ⟨b, o, none⟩) h hb).trans hc
/-- two rows of ints side by side -/
structure Two (B : Nat) (wr : World) (v1 v2 : Value) (xs ys : List Int) : Prop where
  o1 : OwnI wr B v1 xs
  o2 : OwnI wr B v2 ys
  sep : ∀ g, v1.ownBlock = some g → v2.ownBlock ≠ some g
  size : B ≤ wr.heap.size
theorem Two.nil {B : Nat} {w : World} (h : B ≤ w.heap.size) : Two B w (.slice none 0 0) (.slice none 0 0) [] [] := ⟨OwnI.nil _ _, OwnI.nil _ _, (fun g h => (by cases h)), h⟩
theorem Two.ext {B : Nat} {w w' : World} {v1 v2 : Value} {xs ys : List Int} (h : Two B w v1 v2 xs ys) (hx : Ext w w') : Two B w' v1 v2 xs ys := ⟨h.o1.ext hx, h.o2.ext hx, h.sep, Nat.le_trans h.size hx.size⟩
theorem Two.chg {B lo hi : Nat} {w w' : World} {v1 v2 : Value} {xs ys : List Int} (h : Two B w v1 v2 xs ys) (k : Chg lo hi w w') (hb : hi ≤ B) : Two B w' v1 v2 xs ys := ⟨h.o1.chg k hb, h.o2.chg k hb, h.sep, Nat.le_trans h.size k.size⟩
theorem own_lt {B : Nat} {w : World} {v : Value} {xs : List Int} (h : OwnI w B v xs) {g : Nat} (hg : v.ownBlock = some g) : B ≤ g ∧ g < w.heap.size := by
  rcases h.2 with ⟨rfl, _⟩ | ⟨g', cap, cur, rfl, hb, hh, _⟩
  · cases hg
  · cases hg; exact ⟨hb, (Array.getElem?_eq_some_iff.1 hh).1⟩
/-- the normal range of a few numbers is small -/
theorem normL_bd {L : List Int} (h : ∀ x ∈ L, -500 ≤ x ∧ x ≤ 500) : (-1000 ≤ (normL L).1 ∧ (normL L).1 ≤ 1000) ∧ (-1000 ≤ (normL L).2.1 ∧ (normL L).2.1 ≤ 1000) ∧ (-1000 ≤ (normL L).2.2 ∧ (normL L).2.2 ≤ 1000) ∧ (L.Nodup → (normL L).2.2 ≠ 0) := by
  match L, h with
  | [], _ => simp [normL]
  | [x], h => have := h x (by simp); simp [normL]; omega
  | x :: y :: r, h =>
    have h1 := h x (by simp)
    have h2 := h y (by simp)
    have h3 := h ((y :: r).getLast (by simp)) (List.mem_cons_of_mem _ (List.getLast_mem _))
    simp only [normL]
    refine ⟨by omega, by split <;> omega, by omega, fun hn => ?_⟩
    have : x ≠ y := by
      intro he; subst he
      have := (List.nodup_cons.1 hn).1
      exact this (List.mem_cons_self ..)
    omega

theorem mul_bdS {x t : Int} (h : -1000 ≤ x ∧ x ≤ 1000) (k : -60 ≤ t ∧ t ≤ 60) : -60000 ≤ x * t ∧ x * t ≤ 60000 := by
  rcases Int.le_total 0 t with ht | ht
  · have a1 := Int.mul_le_mul_of_nonneg_right h.2 ht
    have a2 := Int.mul_le_mul_of_nonneg_right h.1 ht
    omega
  · have a1 := Int.mul_le_mul_of_nonpos_right h.2 ht
    have a2 := Int.mul_le_mul_of_nonpos_right h.1 ht
    omega

end Go.Proofs.Ytfbbnbpobojboaa

/- Walks: cutDim of the reference. -/
namespace Go.Proofs.Ytfbbnbpobojboaa
open Go.RowKit
set_option linter.unusedVariables false
set_option maxRecDepth 100000


theorem PView.own {w w' : World} {base : Int} {shape strides : List Int} {v1 v2 : Value} (o1 : OwnZ w' w.heap.size v1 shape) (o2 : OwnZ w' w.heap.size v2 strides) (hd : shape ≠ [] → strides ≠ [] → v1.ownBlock ≠ v2.ownBlock) (l1 : shape.length ≤ 4194304) (l2 : strides.length ≤ 4194304) (hx : Ext w w') :
  PView w base shape strides (.returned (.agg #[.int .i64 base, v1, v2])) w' := ⟨v1, v2, rfl, o1.ints l1, o2.ints l2, o1, o2, hd, hx⟩

set_option maxHeartbeats 6400000 in
theorem cutDim_c (b1 : Int) (u1 v1 : Value) (s1 t1 : List Int) (d : Nat) (F T B : Int) (hf ht : Bool) (L : List Int) (w : World) (l1 m1 : Nat) (h1 : Ints w l1 u1 s1) (k1 : Ints w m1 v1 t1) (ha : viewB b1 s1 t1 = true) (hd : d < s1.length) (hs : sliceB F T B hf ht = true) (hL : idxS (s1.getD d 0) F T B hf ht = L) :
  Calls Try.prog 150 #[.agg #[.int .i64 b1, u1, v1], .int .i64 (d : Int), .agg #[.int .i64 F, .int .i64 T, .int .i64 B, .bool hf, .bool ht]] w (PView w (cutB b1 s1 t1 d L) (cutS s1 d L) (cutT s1 t1 d L)) := by
 have hlen1 := ints_len h1
 have hlen2 := ints_len k1
 obtain ⟨j1, j2, j3, j4, -⟩ := viewB_in ha
 have hd2 : d < t1.length := by omega
 have hin := Lib.hid j1
 have hst := Lib.hid j4
 have hsl := Lib.hid hs
 have hj2 := Lib.hid j2
 have hdI : (d : Int) < s1.length := by omega
 have hdI2 : (d : Int) < t1.length := by omega
 have hd0 : (0 : Int) ≤ d := by omega
 have hn60 : 0 ≤ s1.getD d 0 ∧ s1.getD d 0 ≤ 60 := (shapeB_in j1).2.1 _ (getD_mem hd)
 have hx60 : -60 ≤ t1.getD d 0 ∧ t1.getD d 0 ≤ 60 := j4 _ (getD_mem hd2)
 have hLI := Lib.hid hL
 have hLm : ∀ x ∈ L, 0 ≤ x ∧ x ≤ 60 := fun x hx => by rw [← hL] at hx; have := idxS_in hn60.1 (sliceB_in hs).2.2.2 x hx; omega
 have hLb : Hid (∀ x ∈ L, -1000000 ≤ x ∧ x ≤ 1000000) := Lib.hid (fun x hx => by have := hLm x hx; omega)
 obtain ⟨q1, q2, q3, q4⟩ := normL_bd (L := L) (fun x hx => by have := hLm x hx; omega)
 have q5 := q4 (by rw [← hL]; exact numL_nodup (sliceB_in hs).2.2.2)
 have hN : Hid (numL (normL L).1 (normL L).2.1 (normL L).2.2 = L) := Lib.hid (by rw [← hL]; exact norm_numL (sliceB_in hs).2.2.2)
 have hnum : Hid (∀ W, Calls Try.prog 176 #[.agg #[.int .i64 (normL L).1, .int .i64 (normL L).2.1, .int .i64 (normL L).2.2]] W (PInts W L)) := Lib.hid (fun W => by have := numbers_c (normL L).1 (normL L).2.1 (normL L).2.2 W q1 q2 q3 q5; rwa [hN.out] at this)
 have hAx : -60000 ≤ (normL L).1 * t1.getD d 0 ∧ (normL L).1 * t1.getD d 0 ≤ 60000 := mul_bdS q1 hx60
 have hCx : -60000 ≤ (normL L).2.2 * t1.getD d 0 ∧ (normL L).2.2 * t1.getD d 0 ≤ 60000 := mul_bdS q3 hx60
 have hne1 : s1 ≠ [] := fun h => by rw [h] at hd; simp at hd
 have hne2 : t1 ≠ [] := fun h => by rw [h] at hd2; simp at hd2
 have hLl : L.length ≤ 60 := by
  rcases num_len_le (sliceB_in hs).2.2.2 (idxS_in hn60.1 (sliceB_in hs).2.2.2) with h | h <;> (rw [← idxS, hL] at h; omega)
 clear ha j1 j2 j4 hs hL hLm q4 q5 hN
 obtain ⟨a1, cp1, rfl⟩ := h1.form
 obtain ⟨a2, cp2, rfl⟩ := k1.form
 obtain ⟨b1s, o1s, rfl, hc1⟩ := h1.at d hd
 obtain ⟨b2s, o2s, rfl, hc2⟩ := k1.at d hd2
 generalize hg : s1.getD d 0 = n at *
 replace hg := Lib.hid hg
 generalize hg2 : t1.getD d 0 = x at *
 replace hg2 := Lib.hid hg2
 have hnorm : ∀ (v : Value) (W : World) (lo : Nat), Ints W lo v L → Calls Try.prog 174 #[v] W (fun e w' => e = .returned (.agg #[.int .i64 (normL L).1, .int .i64 (normL L).2.1, .int .i64 (normL L).2.2]) ∧ Ext W w') := fun v W lo h => normal_c L v W lo h hLb.out
 generalize hN1 : (normL L).1 = A at *
 generalize hN2 : (normL L).2.1 = A2 at *
 generalize hN3 : (normL L).2.2 = A3 at *
 replace hnorm := Lib.hid hnorm
 replace hN1 := Lib.hid hN1
 replace hN2 := Lib.hid hN2
 replace hN3 := Lib.hid hN3
 have z_ea : b1s < w.heap.size := qB hc1
 have ea0 := hc1
 have y_ea := z_ea
 have z_eb : b2s < w.heap.size := qB hc2
 have eb0 := hc2
 have y_eb := z_eb
 clear hc1 hc2
 go_enter Try.func150, Try.ntmps150
 go_wp2_with fail
 refine (scopyView_c b1 _ _ s1 t1 _ l1 m1 (h1.ext qXo) (k1.ext qXo)).mono ?_
 rintro e w1 ⟨x1, x2, rfl, -, -, o1, o2, od, xw1⟩
 have Lw1 : Ext w w1 := Ext.trans qXt xw1
 have Xw1 : Ext w w1 := Lw1
 replace ea0 := Lw1.cell ea0
 replace eb0 := Lw1.cell eb0
 have va0 : w1.cell? ⟨w.heap.size, 0, none⟩ = some (.int .i64 b1) := xw1.cell qCl
 have va1 : w1.cell? ⟨w.heap.size, 1, none⟩ = some (.slice (some ⟨b1s, o1s, none⟩) s1.length cp1) := xw1.cell qCl
 have va2 : w1.cell? ⟨w.heap.size, 2, none⟩ = some (.slice (some ⟨b2s, o2s, none⟩) t1.length cp2) := xw1.cell qCl
 have sl0 : w1.cell? ⟨w.heap.size + 1, 0, none⟩ = some (.int .i64 F) := xw1.cell qCl
 have sl1 : w1.cell? ⟨w.heap.size + 1, 1, none⟩ = some (.int .i64 T) := xw1.cell qCl
 have sl2 : w1.cell? ⟨w.heap.size + 1, 2, none⟩ = some (.int .i64 B) := xw1.cell qCl
 have sl3 : w1.cell? ⟨w.heap.size + 1, 3, none⟩ = some (.bool hf) := xw1.cell qCl
 have sl4 : w1.cell? ⟨w.heap.size + 1, 4, none⟩ = some (.bool ht) := xw1.cell qCl
 have q0 : w1.cell? ⟨w.heap.size + 1 + 1, 0, none⟩ = some (.int .i64 0) := xw1.cell qCl
 have q1 : w1.cell? ⟨w.heap.size + 1 + 1, 1, none⟩ = some (.slice none 0 0) := xw1.cell qCl
 have q2 : w1.cell? ⟨w.heap.size + 1 + 1, 2, none⟩ = some (.slice none 0 0) := xw1.cell qCl
 have f_q0 : w1.frozen? ⟨w.heap.size + 1 + 1, 0, none⟩ = false := xw1.frz (by simp <;> omega) qFz
 have f_q1 : w1.frozen? ⟨w.heap.size + 1 + 1, 1, none⟩ = false := xw1.frz (by simp <;> omega) qFz
 have f_q2 : w1.frozen? ⟨w.heap.size + 1 + 1, 2, none⟩ = false := xw1.frz (by simp <;> omega) qFz
 have z_ea : b1s < w1.heap.size := qB ea0
 have z_eb : b2s < w1.heap.size := qB eb0
 have z_va : w.heap.size < w1.heap.size := qB va0
 have z_sl : w.heap.size + 1 < w1.heap.size := qB sl0
 have z_q : w.heap.size + 1 + 1 < w1.heap.size := qB q0
 have s_w1 : w.heap.size ≤ w1.heap.size := Xw1.size
 clear xw1
 have O1 := (o1.ofNe hne1).lower (show w.heap.size + 3 ≤ _ by simp)
 have O2 := (o2.ofNe hne2).lower (show w.heap.size + 3 ≤ _ by simp)
 clear o1 o2
 obtain ⟨g1, r1, rfl, G1, G1'⟩ := O1.row hne1
 obtain ⟨g2, r2, rfl, G2, G2'⟩ := O2.row hne2
 have hgg : g1 ≠ g2 := fun h => od hne1 hne2 (by rw [h]; rfl)
 clear od
 go_wp2_with fail
 generalize hW1 : w1.alloc (.cells #[.int .i64 b1, .slice (some ⟨g1, 0, none⟩) s1.length r1, .slice (some ⟨g2, 0, none⟩) t1.length r2] 36) = w2 at *
 have Lw2 : Ext w1 w2 := by subst hW1; exact qXt
 have Xw2 : Ext w w2 := Xw1.trans Lw2
 replace ea0 := Lw2.cell ea0
 replace eb0 := Lw2.cell eb0
 replace va0 := Lw2.cell va0
 replace va1 := Lw2.cell va1
 replace va2 := Lw2.cell va2
 replace sl0 := Lw2.cell sl0
 replace sl1 := Lw2.cell sl1
 replace sl2 := Lw2.cell sl2
 replace sl3 := Lw2.cell sl3
 replace sl4 := Lw2.cell sl4
 replace q0 := Lw2.cell q0
 replace q1 := Lw2.cell q1
 replace q2 := Lw2.cell q2
 replace f_q0 := Lw2.frz z_q f_q0
 replace f_q1 := Lw2.frz z_q f_q1
 replace f_q2 := Lw2.frz z_q f_q2
 have y0 : w2.cell? ⟨w1.heap.size, 0, none⟩ = some (.int .i64 b1) := by subst hW1; exact qCl
 have y1 : w2.cell? ⟨w1.heap.size, 1, none⟩ = some (.slice (some ⟨g1, 0, none⟩) s1.length r1) := by subst hW1; exact qCl
 have y2 : w2.cell? ⟨w1.heap.size, 2, none⟩ = some (.slice (some ⟨g2, 0, none⟩) t1.length r2) := by subst hW1; exact qCl
 have f_y0 : w2.frozen? ⟨w1.heap.size, 0, none⟩ = false := by subst hW1; exact qFz
 have f_y1 : w2.frozen? ⟨w1.heap.size, 1, none⟩ = false := by subst hW1; exact qFz
 have f_y2 : w2.frozen? ⟨w1.heap.size, 2, none⟩ = false := by subst hW1; exact qFz
 have z_ea : b1s < w2.heap.size := qB ea0
 have z_eb : b2s < w2.heap.size := qB eb0
 have z_va : w.heap.size < w2.heap.size := qB va0
 have z_sl : w.heap.size + 1 < w2.heap.size := qB sl0
 have z_q : w.heap.size + 1 + 1 < w2.heap.size := qB q0
 have z_y : w1.heap.size < w2.heap.size := qB y0
 replace O1 := O1.ext Lw2
 replace O2 := O2.ext Lw2
 have s_w2 : w.heap.size ≤ w2.heap.size := Xw2.size
 clear hW1
 go_cut [8] (fun s8 wx => ∃ g : Nat, s8 = .pointer (some ⟨g, 0, none⟩) ∧ Ext w2 wx ∧ w2.heap.size ≤ g ∧ wx.cell? ⟨g, 0, none⟩ = some (.int .i64 A) ∧ wx.cell? ⟨g, 1, none⟩ = some (.int .i64 A2) ∧ wx.cell? ⟨g, 2, none⟩ = some (.int .i64 A3))
 case first =>
  refine wp_region_held_drew (S := fun w' => w'.cell? ⟨b1s, o1s + d, none⟩ = some (.int .i64 n) ∧ w'.cell? ⟨w.heap.size, 1, none⟩ = some (.slice (some ⟨b1s, o1s, none⟩) s1.length cp1) ∧ w'.cell? ⟨w.heap.size + 1, 0, none⟩ = some (.int .i64 F) ∧ w'.cell? ⟨w.heap.size + 1, 1, none⟩ = some (.int .i64 T) ∧ w'.cell? ⟨w.heap.size + 1, 2, none⟩ = some (.int .i64 B) ∧ w'.cell? ⟨w.heap.size + 1, 3, none⟩ = some (.bool hf) ∧ w'.cell? ⟨w.heap.size + 1, 4, none⟩ = some (.bool ht)) qKr ⟨ea0, va1, sl0, sl1, sl2, sl3, sl4⟩ (fun hHeld => ?_)
  refine qHk (v := ?_) 0 rfl (.inl ⟨by rfl, ?_⟩) ?_
  rotate_left
  ·
   (intro w hSw; (try dsimp only at hSw); go_simp; try with_reducible rfl)
  try simp only [Act.put, qa, qb, qc, qD, qE, qF]
  refine qHk (v := ?_) 1 rfl (.inl ⟨by rfl, ?_⟩) ?_
  rotate_left
  ·
   (intro w hSw; (try dsimp only at hSw); go_simp; try with_reducible rfl)
  try simp only [Act.put, qa, qb, qc, qD, qE, qF]
  refine qHk (v := ?_) 2 rfl (.inl ⟨by rfl, ?_⟩) ?_
  rotate_left
  ·
   (intro w hSw; (try dsimp only at hSw); go_simp; try with_reducible rfl)
  try simp only [Act.put, qa, qb, qc, qD, qE, qF]
  refine qHk (v := ?_) 3 rfl (.inl ⟨by rfl, ?_⟩) ?_
  rotate_left
  ·
   (intro w hSw; (try dsimp only at hSw); go_simp; try with_reducible rfl)
  try simp only [Act.put, qa, qb, qc, qD, qE, qF]
  refine qHk (v := ?_) 4 rfl (.inl ⟨by rfl, ?_⟩) ?_
  rotate_left
  ·
   (intro w hSw; (try dsimp only at hSw); go_simp; try with_reducible rfl)
  try simp only [Act.put, qa, qb, qc, qD, qE, qF]
  refine qHk (v := ?_) 5 rfl (.inl ⟨by rfl, ?_⟩) ?_
  rotate_left
  ·
   (intro w hSw; (try dsimp only at hSw); go_simp; try with_reducible rfl)
  try simp only [Act.put, qa, qb, qc, qD, qE, qF]
  refine wpAnyH_ready (rs := [6, 8]) qKr (by simp) ?_
  refine AllReadyH.cons rfl (fun K hK => ?_) (AllReadyH.cons rfl (fun K hK => ?_) AllReadyH.nil)
  rotate_left
  try simp only [Act.put, qa, qb, qc, qD, qE, qF]
  go_simp
  refine hK.out _ _ ⟨(show Ext w2 _ from qXt).cell ea0, (show Ext w2 _ from qXt).cell va1, (show Ext w2 _ from qXt).cell sl0, (show Ext w2 _ from qXt).cell sl1, (show Ext w2 _ from qXt).cell sl2, (show Ext w2 _ from qXt).cell sl3, (show Ext w2 _ from qXt).cell sl4⟩ (fun hHeld => ?_)
  clear hK K
  try simp only [Act.put, qa, qb, qc, qD, qE, qF]
  have qa0 : (w2.drew.alloc (.cells #[.int .i64 0, .int .i64 0, .int .i64 0] 150)).cell? ⟨w2.heap.size, 0, none⟩ = some (.int .i64 0) := qCl
  have qf0 : (w2.drew.alloc (.cells #[.int .i64 0, .int .i64 0, .int .i64 0] 150)).frozen? ⟨w2.heap.size, 0, none⟩ = false := qFz
  have qa1 : (w2.drew.alloc (.cells #[.int .i64 0, .int .i64 0, .int .i64 0] 150)).cell? ⟨w2.heap.size, 1, none⟩ = some (.int .i64 0) := qCl
  have qf1 : (w2.drew.alloc (.cells #[.int .i64 0, .int .i64 0, .int .i64 0] 150)).frozen? ⟨w2.heap.size, 1, none⟩ = false := qFz
  have qa2 : (w2.drew.alloc (.cells #[.int .i64 0, .int .i64 0, .int .i64 0] 150)).cell? ⟨w2.heap.size, 2, none⟩ = some (.int .i64 0) := qCl
  have qf2 : (w2.drew.alloc (.cells #[.int .i64 0, .int .i64 0, .int .i64 0] 150)).frozen? ⟨w2.heap.size, 2, none⟩ = false := qFz
  have zg : w2.heap.size < (w2.drew.alloc (.cells #[.int .i64 0, .int .i64 0, .int .i64 0] 150)).heap.size := qB qa0
  have hg : w2.heap.size ≤ w2.heap.size := Nat.le_refl _
  refine qHr 6 rfl (fun K hK => ?_)
  try simp only [Act.put, qa, qb, qc, qD, qE, qF]
  go_simp
  refine (indices_c n F T B hf ht _ (by omega) hsl.out).mono ?_
  rintro e w3 ⟨r3, rfl, i3, -, xw3⟩
  have Lw3 : Ext w2 w3 := Ext.trans qXt xw3
  replace ea0 := Lw3.cell ea0
  replace va1 := Lw3.cell va1
  replace sl0 := Lw3.cell sl0
  replace sl1 := Lw3.cell sl1
  replace sl2 := Lw3.cell sl2
  replace sl3 := Lw3.cell sl3
  replace sl4 := Lw3.cell sl4
  rw [hLI.out] at i3
  replace qa0 := xw3.cell qa0
  replace qf0 := xw3.frz zg qf0
  replace qa1 := xw3.cell qa1
  replace qf1 := xw3.frz zg qf1
  replace qa2 := xw3.cell qa2
  replace qf2 := xw3.frz zg qf2
  replace zg := Nat.lt_of_lt_of_le zg xw3.size
  refine hK.out _ _ ⟨ea0, va1, sl0, sl1, sl2, sl3, sl4⟩ (fun hHeld => ?_)
  clear hK K
  try simp only [Act.put, qa, qb, qc, qD, qE, qF]
  refine qHr 7 rfl (fun K hK => ?_)
  try simp only [Act.put, qa, qb, qc, qD, qE, qF]
  go_simp
  refine (hnorm.out _ _ _ (i3.ext qXt)).mono ?_
  rintro e w4 ⟨rfl, xw4⟩
  have Lw4 : Ext w3 w4 := Ext.trans qXt xw4
  replace ea0 := Lw4.cell ea0
  replace va1 := Lw4.cell va1
  replace sl0 := Lw4.cell sl0
  replace sl1 := Lw4.cell sl1
  replace sl2 := Lw4.cell sl2
  replace sl3 := Lw4.cell sl3
  replace sl4 := Lw4.cell sl4
  replace qa0 := xw4.cell qa0
  replace qf0 := xw4.frz zg qf0
  replace qa1 := xw4.cell qa1
  replace qf1 := xw4.frz zg qf1
  replace qa2 := xw4.cell qa2
  replace qf2 := xw4.frz zg qf2
  replace zg := Nat.lt_of_lt_of_le zg xw4.size
  refine hK.out _ _ ⟨ea0, va1, sl0, sl1, sl2, sl3, sl4⟩ (fun hHeld => ?_)
  clear hK K
  try simp only [Act.put, qa, qb, qc, qD, qE, qF]
  refine qHr 9 rfl (fun K hK => ?_)
  try simp only [Act.put, qa, qb, qc, qD, qE, qF]
  go_simp
  have XE : Ext w2 (((w4.setCell ⟨w2.heap.size, 0, none⟩ (.int .i64 A)).setCell ⟨w2.heap.size, 1, none⟩ (.int .i64 A2)).setCell ⟨w2.heap.size, 2, none⟩ (.int .i64 A3)) := (Ext.setCell (Ext.setCell (Ext.setCell (Lw3.trans Lw4) hg _) hg _) hg _)
  have nr0 : (((w4.setCell ⟨w2.heap.size, 0, none⟩ (.int .i64 A)).setCell ⟨w2.heap.size, 1, none⟩ (.int .i64 A2)).setCell ⟨w2.heap.size, 2, none⟩ (.int .i64 A3)).cell? ⟨w2.heap.size, 0, none⟩ = some (.int .i64 A) := qCl
  have f_nr0 : (((w4.setCell ⟨w2.heap.size, 0, none⟩ (.int .i64 A)).setCell ⟨w2.heap.size, 1, none⟩ (.int .i64 A2)).setCell ⟨w2.heap.size, 2, none⟩ (.int .i64 A3)).frozen? ⟨w2.heap.size, 0, none⟩ = false := qFz
  have nr1 : (((w4.setCell ⟨w2.heap.size, 0, none⟩ (.int .i64 A)).setCell ⟨w2.heap.size, 1, none⟩ (.int .i64 A2)).setCell ⟨w2.heap.size, 2, none⟩ (.int .i64 A3)).cell? ⟨w2.heap.size, 1, none⟩ = some (.int .i64 A2) := qCl
  have f_nr1 : (((w4.setCell ⟨w2.heap.size, 0, none⟩ (.int .i64 A)).setCell ⟨w2.heap.size, 1, none⟩ (.int .i64 A2)).setCell ⟨w2.heap.size, 2, none⟩ (.int .i64 A3)).frozen? ⟨w2.heap.size, 1, none⟩ = false := qFz
  have nr2 : (((w4.setCell ⟨w2.heap.size, 0, none⟩ (.int .i64 A)).setCell ⟨w2.heap.size, 1, none⟩ (.int .i64 A2)).setCell ⟨w2.heap.size, 2, none⟩ (.int .i64 A3)).cell? ⟨w2.heap.size, 2, none⟩ = some (.int .i64 A3) := qCl
  have f_nr2 : (((w4.setCell ⟨w2.heap.size, 0, none⟩ (.int .i64 A)).setCell ⟨w2.heap.size, 1, none⟩ (.int .i64 A2)).setCell ⟨w2.heap.size, 2, none⟩ (.int .i64 A3)).frozen? ⟨w2.heap.size, 2, none⟩ = false := qFz
  have hg1 : w2.heap.size ≤ w2.heap.size := hg
  have KE : Chg w2.heap.size (w2.heap.size + 1) w4 (((w4.setCell ⟨w2.heap.size, 0, none⟩ (.int .i64 A)).setCell ⟨w2.heap.size, 1, none⟩ (.int .i64 A2)).setCell ⟨w2.heap.size, 2, none⟩ (.int .i64 A3)) := (by repeat (first | (with_reducible exact Chg.refl _ _ _) | (with_reducible refine Chg.setCell ?_ qSo qSo _) | (with_reducible refine Chg.ext ?_ (Ext.alloc (Ext.refl _) _)) | (with_reducible refine Chg.ext ?_ (Ext.drew (Ext.refl _)))))
  replace ea0 := KE.cell (by omega) ea0
  replace va1 := KE.cell (by omega) va1
  replace sl0 := KE.cell (by omega) sl0
  replace sl1 := KE.cell (by omega) sl1
  replace sl2 := KE.cell (by omega) sl2
  replace sl3 := KE.cell (by omega) sl3
  replace sl4 := KE.cell (by omega) sl4
  refine hK.out _ _ ⟨ea0, va1, sl0, sl1, sl2, sl3, sl4⟩ (fun hHeld => ?_)
  clear hK K KE
  try simp only [Act.put, qa, qb, qc, qD, qE, qF]
  refine wpAnyH_done qKr ?_ _
  clear hHeld
  generalize (((w4.setCell ⟨w2.heap.size, 0, none⟩ (.int .i64 A)).setCell ⟨w2.heap.size, 1, none⟩ (.int .i64 A2)).setCell ⟨w2.heap.size, 2, none⟩ (.int .i64 A3)) = WE at *
  go_step
  go_step
  go_meet
  case rel => exact ⟨_, rfl, XE, hg1, nr0, nr1, nr2⟩
  try simp only [Act.put, qa, qb, qc, qD, qE, qF]
  go_simp
  refine (indices_c n F T B hf ht _ (by omega) hsl.out).mono ?_
  rintro e w3 ⟨r3, rfl, i3, -, xw3⟩
  have Lw3 : Ext w2 w3 := Ext.trans qXt xw3
  replace ea0 := Lw3.cell ea0
  replace va1 := Lw3.cell va1
  replace sl0 := Lw3.cell sl0
  replace sl1 := Lw3.cell sl1
  replace sl2 := Lw3.cell sl2
  replace sl3 := Lw3.cell sl3
  replace sl4 := Lw3.cell sl4
  rw [hLI.out] at i3
  refine hK.out _ _ ⟨ea0, va1, sl0, sl1, sl2, sl3, sl4⟩ (fun hHeld => ?_)
  clear hK K
  try simp only [Act.put, qa, qb, qc, qD, qE, qF]
  refine wpAnyH_ready (rs := [7, 8]) qKr (by simp) ?_
  refine AllReadyH.cons rfl (fun K hK => ?_) (AllReadyH.cons rfl (fun K hK => ?_) AllReadyH.nil)
  rotate_left
  try simp only [Act.put, qa, qb, qc, qD, qE, qF]
  go_simp
  refine hK.out _ _ ⟨(show Ext w3 _ from qXt).cell ea0, (show Ext w3 _ from qXt).cell va1, (show Ext w3 _ from qXt).cell sl0, (show Ext w3 _ from qXt).cell sl1, (show Ext w3 _ from qXt).cell sl2, (show Ext w3 _ from qXt).cell sl3, (show Ext w3 _ from qXt).cell sl4⟩ (fun hHeld => ?_)
  clear hK K
  try simp only [Act.put, qa, qb, qc, qD, qE, qF]
  have qa0 : (w3.alloc (.cells #[.int .i64 0, .int .i64 0, .int .i64 0] 150)).cell? ⟨w3.heap.size, 0, none⟩ = some (.int .i64 0) := qCl
  have qf0 : (w3.alloc (.cells #[.int .i64 0, .int .i64 0, .int .i64 0] 150)).frozen? ⟨w3.heap.size, 0, none⟩ = false := qFz
  have qa1 : (w3.alloc (.cells #[.int .i64 0, .int .i64 0, .int .i64 0] 150)).cell? ⟨w3.heap.size, 1, none⟩ = some (.int .i64 0) := qCl
  have qf1 : (w3.alloc (.cells #[.int .i64 0, .int .i64 0, .int .i64 0] 150)).frozen? ⟨w3.heap.size, 1, none⟩ = false := qFz
  have qa2 : (w3.alloc (.cells #[.int .i64 0, .int .i64 0, .int .i64 0] 150)).cell? ⟨w3.heap.size, 2, none⟩ = some (.int .i64 0) := qCl
  have qf2 : (w3.alloc (.cells #[.int .i64 0, .int .i64 0, .int .i64 0] 150)).frozen? ⟨w3.heap.size, 2, none⟩ = false := qFz
  have zg : w3.heap.size < (w3.alloc (.cells #[.int .i64 0, .int .i64 0, .int .i64 0] 150)).heap.size := qB qa0
  have hg : w2.heap.size ≤ w3.heap.size := (Lw3).size
  refine qHr 7 rfl (fun K hK => ?_)
  try simp only [Act.put, qa, qb, qc, qD, qE, qF]
  go_simp
  refine (hnorm.out _ _ _ (i3.ext qXt)).mono ?_
  rintro e w4 ⟨rfl, xw4⟩
  have Lw4 : Ext w3 w4 := Ext.trans qXt xw4
  replace ea0 := Lw4.cell ea0
  replace va1 := Lw4.cell va1
  replace sl0 := Lw4.cell sl0
  replace sl1 := Lw4.cell sl1
  replace sl2 := Lw4.cell sl2
  replace sl3 := Lw4.cell sl3
  replace sl4 := Lw4.cell sl4
  replace qa0 := xw4.cell qa0
  replace qf0 := xw4.frz zg qf0
  replace qa1 := xw4.cell qa1
  replace qf1 := xw4.frz zg qf1
  replace qa2 := xw4.cell qa2
  replace qf2 := xw4.frz zg qf2
  replace zg := Nat.lt_of_lt_of_le zg xw4.size
  refine hK.out _ _ ⟨ea0, va1, sl0, sl1, sl2, sl3, sl4⟩ (fun hHeld => ?_)
  clear hK K
  try simp only [Act.put, qa, qb, qc, qD, qE, qF]
  refine qHr 9 rfl (fun K hK => ?_)
  try simp only [Act.put, qa, qb, qc, qD, qE, qF]
  go_simp
  have XE : Ext w2 (((w4.setCell ⟨w3.heap.size, 0, none⟩ (.int .i64 A)).setCell ⟨w3.heap.size, 1, none⟩ (.int .i64 A2)).setCell ⟨w3.heap.size, 2, none⟩ (.int .i64 A3)) := (Ext.setCell (Ext.setCell (Ext.setCell (Lw3.trans Lw4) hg _) hg _) hg _)
  have nr0 : (((w4.setCell ⟨w3.heap.size, 0, none⟩ (.int .i64 A)).setCell ⟨w3.heap.size, 1, none⟩ (.int .i64 A2)).setCell ⟨w3.heap.size, 2, none⟩ (.int .i64 A3)).cell? ⟨w3.heap.size, 0, none⟩ = some (.int .i64 A) := qCl
  have f_nr0 : (((w4.setCell ⟨w3.heap.size, 0, none⟩ (.int .i64 A)).setCell ⟨w3.heap.size, 1, none⟩ (.int .i64 A2)).setCell ⟨w3.heap.size, 2, none⟩ (.int .i64 A3)).frozen? ⟨w3.heap.size, 0, none⟩ = false := qFz
  have nr1 : (((w4.setCell ⟨w3.heap.size, 0, none⟩ (.int .i64 A)).setCell ⟨w3.heap.size, 1, none⟩ (.int .i64 A2)).setCell ⟨w3.heap.size, 2, none⟩ (.int .i64 A3)).cell? ⟨w3.heap.size, 1, none⟩ = some (.int .i64 A2) := qCl
  have f_nr1 : (((w4.setCell ⟨w3.heap.size, 0, none⟩ (.int .i64 A)).setCell ⟨w3.heap.size, 1, none⟩ (.int .i64 A2)).setCell ⟨w3.heap.size, 2, none⟩ (.int .i64 A3)).frozen? ⟨w3.heap.size, 1, none⟩ = false := qFz
  have nr2 : (((w4.setCell ⟨w3.heap.size, 0, none⟩ (.int .i64 A)).setCell ⟨w3.heap.size, 1, none⟩ (.int .i64 A2)).setCell ⟨w3.heap.size, 2, none⟩ (.int .i64 A3)).cell? ⟨w3.heap.size, 2, none⟩ = some (.int .i64 A3) := qCl
  have f_nr2 : (((w4.setCell ⟨w3.heap.size, 0, none⟩ (.int .i64 A)).setCell ⟨w3.heap.size, 1, none⟩ (.int .i64 A2)).setCell ⟨w3.heap.size, 2, none⟩ (.int .i64 A3)).frozen? ⟨w3.heap.size, 2, none⟩ = false := qFz
  have hg1 : w2.heap.size ≤ w3.heap.size := hg
  have KE : Chg w3.heap.size (w3.heap.size + 1) w4 (((w4.setCell ⟨w3.heap.size, 0, none⟩ (.int .i64 A)).setCell ⟨w3.heap.size, 1, none⟩ (.int .i64 A2)).setCell ⟨w3.heap.size, 2, none⟩ (.int .i64 A3)) := (by repeat (first | (with_reducible exact Chg.refl _ _ _) | (with_reducible refine Chg.setCell ?_ qSo qSo _) | (with_reducible refine Chg.ext ?_ (Ext.alloc (Ext.refl _) _)) | (with_reducible refine Chg.ext ?_ (Ext.drew (Ext.refl _)))))
  replace ea0 := KE.cell (by omega) ea0
  replace va1 := KE.cell (by omega) va1
  replace sl0 := KE.cell (by omega) sl0
  replace sl1 := KE.cell (by omega) sl1
  replace sl2 := KE.cell (by omega) sl2
  replace sl3 := KE.cell (by omega) sl3
  replace sl4 := KE.cell (by omega) sl4
  refine hK.out _ _ ⟨ea0, va1, sl0, sl1, sl2, sl3, sl4⟩ (fun hHeld => ?_)
  clear hK K KE
  try simp only [Act.put, qa, qb, qc, qD, qE, qF]
  refine wpAnyH_done qKr ?_ _
  clear hHeld
  generalize (((w4.setCell ⟨w3.heap.size, 0, none⟩ (.int .i64 A)).setCell ⟨w3.heap.size, 1, none⟩ (.int .i64 A2)).setCell ⟨w3.heap.size, 2, none⟩ (.int .i64 A3)) = WE at *
  go_step
  go_step
  go_meet
  case rel => exact ⟨_, rfl, XE, hg1, nr0, nr1, nr2⟩
  try simp only [Act.put, qa, qb, qc, qD, qE, qF]
  go_simp
  refine (hnorm.out _ _ _ (i3.ext qXt)).mono ?_
  rintro e w4 ⟨rfl, xw4⟩
  have Lw4 : Ext w3 w4 := Ext.trans qXt xw4
  replace ea0 := Lw4.cell ea0
  replace va1 := Lw4.cell va1
  replace sl0 := Lw4.cell sl0
  replace sl1 := Lw4.cell sl1
  replace sl2 := Lw4.cell sl2
  replace sl3 := Lw4.cell sl3
  replace sl4 := Lw4.cell sl4
  refine hK.out _ _ ⟨ea0, va1, sl0, sl1, sl2, sl3, sl4⟩ (fun hHeld => ?_)
  clear hK K
  try simp only [Act.put, qa, qb, qc, qD, qE, qF]
  refine qHr 8 rfl (fun K hK => ?_)
  try simp only [Act.put, qa, qb, qc, qD, qE, qF]
  go_simp
  refine hK.out _ _ ⟨(show Ext w4 _ from qXt).cell ea0, (show Ext w4 _ from qXt).cell va1, (show Ext w4 _ from qXt).cell sl0, (show Ext w4 _ from qXt).cell sl1, (show Ext w4 _ from qXt).cell sl2, (show Ext w4 _ from qXt).cell sl3, (show Ext w4 _ from qXt).cell sl4⟩ (fun hHeld => ?_)
  clear hK K
  try simp only [Act.put, qa, qb, qc, qD, qE, qF]
  refine qHr 9 rfl (fun K hK => ?_)
  try simp only [Act.put, qa, qb, qc, qD, qE, qF]
  go_simp
  have XE : Ext w2 (w4.alloc (.cells #[.int .i64 A, .int .i64 A2, .int .i64 A3] 150)) := (Lw3.trans Lw4).trans qXo
  have nr0 : (w4.alloc (.cells #[.int .i64 A, .int .i64 A2, .int .i64 A3] 150)).cell? ⟨w4.heap.size, 0, none⟩ = some (.int .i64 A) := qCl
  have f_nr0 : (w4.alloc (.cells #[.int .i64 A, .int .i64 A2, .int .i64 A3] 150)).frozen? ⟨w4.heap.size, 0, none⟩ = false := qFz
  have nr1 : (w4.alloc (.cells #[.int .i64 A, .int .i64 A2, .int .i64 A3] 150)).cell? ⟨w4.heap.size, 1, none⟩ = some (.int .i64 A2) := qCl
  have f_nr1 : (w4.alloc (.cells #[.int .i64 A, .int .i64 A2, .int .i64 A3] 150)).frozen? ⟨w4.heap.size, 1, none⟩ = false := qFz
  have nr2 : (w4.alloc (.cells #[.int .i64 A, .int .i64 A2, .int .i64 A3] 150)).cell? ⟨w4.heap.size, 2, none⟩ = some (.int .i64 A3) := qCl
  have f_nr2 : (w4.alloc (.cells #[.int .i64 A, .int .i64 A2, .int .i64 A3] 150)).frozen? ⟨w4.heap.size, 2, none⟩ = false := qFz
  have hg1 : w2.heap.size ≤ w4.heap.size := (Lw3.trans Lw4).size
  have KE : Ext w4 (w4.alloc (.cells #[.int .i64 A, .int .i64 A2, .int .i64 A3] 150)) := qXo
  replace ea0 := KE.cell ea0
  replace va1 := KE.cell va1
  replace sl0 := KE.cell sl0
  replace sl1 := KE.cell sl1
  replace sl2 := KE.cell sl2
  replace sl3 := KE.cell sl3
  replace sl4 := KE.cell sl4
  refine hK.out _ _ ⟨ea0, va1, sl0, sl1, sl2, sl3, sl4⟩ (fun hHeld => ?_)
  clear hK K KE
  try simp only [Act.put, qa, qb, qc, qD, qE, qF]
  refine wpAnyH_done qKr ?_ _
  clear hHeld
  generalize (w4.alloc (.cells #[.int .i64 A, .int .i64 A2, .int .i64 A3] 150)) = WE at *
  go_step
  go_step
  go_meet
  case rel => exact ⟨_, rfl, XE, hg1, nr0, nr1, nr2⟩
 case rest =>
  obtain ⟨g, rfl, xx, hgs, e0, e1, e2⟩ := hcut
  have hge : w1.heap.size < g := by omega
  have Lwc : Ext w2 wc := Ext.trans qXt xx
  have Xwc : Ext w wc := Xw2.trans Lwc
  replace ea0 := Lwc.cell ea0
  replace eb0 := Lwc.cell eb0
  replace va0 := Lwc.cell va0
  replace va1 := Lwc.cell va1
  replace va2 := Lwc.cell va2
  replace sl0 := Lwc.cell sl0
  replace sl1 := Lwc.cell sl1
  replace sl2 := Lwc.cell sl2
  replace sl3 := Lwc.cell sl3
  replace sl4 := Lwc.cell sl4
  replace q0 := Lwc.cell q0
  replace q1 := Lwc.cell q1
  replace q2 := Lwc.cell q2
  replace f_q0 := Lwc.frz z_q f_q0
  replace f_q1 := Lwc.frz z_q f_q1
  replace f_q2 := Lwc.frz z_q f_q2
  replace y0 := Lwc.cell y0
  replace y1 := Lwc.cell y1
  replace y2 := Lwc.cell y2
  replace f_y0 := Lwc.frz z_y f_y0
  replace f_y1 := Lwc.frz z_y f_y1
  replace f_y2 := Lwc.frz z_y f_y2
  have z_ea : b1s < wc.heap.size := qB ea0
  have z_eb : b2s < wc.heap.size := qB eb0
  have z_va : w.heap.size < wc.heap.size := qB va0
  have z_sl : w.heap.size + 1 < wc.heap.size := qB sl0
  have z_q : w.heap.size + 1 + 1 < wc.heap.size := qB q0
  have z_y : w1.heap.size < wc.heap.size := qB y0
  replace O1 := O1.ext Lwc
  replace O2 := O2.ext Lwc
  have s_wc : w.heap.size ≤ wc.heap.size := Xwc.size
  have z_e : g < wc.heap.size := qB e0
  clear xx hnorm
  go_wp2_with fail
  refine (hnum.out _).mono ?_
  rintro e w6 ⟨v9, rfl, i9, -, xw6⟩
  have Lw6 : Ext wc w6 := Ext.trans qXt xw6
  have Xw6 : Ext w w6 := Xwc.trans Lw6
  replace ea0 := Lw6.cell ea0
  replace eb0 := Lw6.cell eb0
  replace va0 := Lw6.cell va0
  replace va1 := Lw6.cell va1
  replace va2 := Lw6.cell va2
  replace sl0 := Lw6.cell sl0
  replace sl1 := Lw6.cell sl1
  replace sl2 := Lw6.cell sl2
  replace sl3 := Lw6.cell sl3
  replace sl4 := Lw6.cell sl4
  replace q0 := Lw6.cell q0
  replace q1 := Lw6.cell q1
  replace q2 := Lw6.cell q2
  replace f_q0 := Lw6.frz z_q f_q0
  replace f_q1 := Lw6.frz z_q f_q1
  replace f_q2 := Lw6.frz z_q f_q2
  replace y0 := Lw6.cell y0
  replace y1 := Lw6.cell y1
  replace y2 := Lw6.cell y2
  replace f_y0 := Lw6.frz z_y f_y0
  replace f_y1 := Lw6.frz z_y f_y1
  replace f_y2 := Lw6.frz z_y f_y2
  replace e0 := Lw6.cell e0
  replace e1 := Lw6.cell e1
  replace e2 := Lw6.cell e2
  have z_ea : b1s < w6.heap.size := qB ea0
  have z_eb : b2s < w6.heap.size := qB eb0
  have z_va : w.heap.size < w6.heap.size := qB va0
  have z_sl : w.heap.size + 1 < w6.heap.size := qB sl0
  have z_q : w.heap.size + 1 + 1 < w6.heap.size := qB q0
  have z_y : w1.heap.size < w6.heap.size := qB y0
  have z_e : g < w6.heap.size := qB e0
  replace O1 := O1.ext Lw6
  replace O2 := O2.ext Lw6
  have s_w6 : w.heap.size ≤ w6.heap.size := Xw6.size
  clear xw6
  obtain ⟨p9, n9, rfl⟩ := i9.form
  have A1 := O1.cell d hd
  obtain ⟨A1a, A1b⟩ := A1
  go_wp2_with fail
  generalize hW2 : (w6.setCell ⟨g1, d, none⟩ (.int .i64 (L.length : Int))) = w7 at *
  have Kw7 : Chg (g1) (g1 + 1) w6 w7 := by subst hW2; exact qCh
  have Xw7 : Ext w w7 := by subst hW2; exact qXt
  replace ea0 := Kw7.cell (by omega) ea0
  replace eb0 := Kw7.cell (by omega) eb0
  replace va0 := Kw7.cell (by omega) va0
  replace va1 := Kw7.cell (by omega) va1
  replace va2 := Kw7.cell (by omega) va2
  replace sl0 := Kw7.cell (by omega) sl0
  replace sl1 := Kw7.cell (by omega) sl1
  replace sl2 := Kw7.cell (by omega) sl2
  replace sl3 := Kw7.cell (by omega) sl3
  replace sl4 := Kw7.cell (by omega) sl4
  replace q0 := Kw7.cell (by omega) q0
  replace f_q0 := Kw7.frzO (by omega) z_q f_q0
  replace q1 := Kw7.cell (by omega) q1
  replace f_q1 := Kw7.frzO (by omega) z_q f_q1
  replace q2 := Kw7.cell (by omega) q2
  replace f_q2 := Kw7.frzO (by omega) z_q f_q2
  replace y0 := Kw7.cell (by omega) y0
  replace f_y0 := Kw7.frzO (by omega) z_y f_y0
  replace y1 := Kw7.cell (by omega) y1
  replace f_y1 := Kw7.frzO (by omega) z_y f_y1
  replace y2 := Kw7.cell (by omega) y2
  replace f_y2 := Kw7.frzO (by omega) z_y f_y2
  replace e0 := Kw7.cell (by omega) e0
  replace e1 := Kw7.cell (by omega) e1
  replace e2 := Kw7.cell (by omega) e2
  have n_O1 := O1.set d (L.length) (by first | omega | (simp; omega))
  rw [hW2] at n_O1
  replace O1 := n_O1
  clear n_O1
  replace O2 := O2.chgN Kw7 (by omega)
  clear Kw7
  have z_ea : b1s < w7.heap.size := qB ea0
  have z_eb : b2s < w7.heap.size := qB eb0
  have z_va : w.heap.size < w7.heap.size := qB va0
  have z_sl : w.heap.size + 1 < w7.heap.size := qB sl0
  have z_q : w.heap.size + 1 + 1 < w7.heap.size := qB q0
  have z_y : w1.heap.size < w7.heap.size := qB y0
  have z_e : g < w7.heap.size := qB e0
  have s_w7 : w.heap.size ≤ w7.heap.size := Xw7.size
  clear hW2
  go_wp2_with fail
  have hw0 : IntKind.i64.wrap (A * x) = A * x := IntWalk.i64_in _ (by omega)
  have hw1 : IntKind.i64.wrap (b1 + A * x) = b1 + A * x := IntWalk.i64_in _ (by omega)
  refine wp_region_tail (S := fun w' => w'.cell? ⟨b2s, o2s + d, none⟩ = some (.int .i64 x) ∧ w'.cell? ⟨w.heap.size, 0, none⟩ = some (.int .i64 b1) ∧ w'.cell? ⟨w.heap.size, 2, none⟩ = some (.slice (some ⟨b2s, o2s, none⟩) t1.length cp2) ∧ w'.cell? ⟨g, 0, none⟩ = some (.int .i64 A)) (fun i => decide (12 ≤ i)) qKr ⟨eb0, va0, va2, e0⟩ (fun hHeld => ?_)
  refine qTk (v := ?_) 0 rfl (.inl ⟨by rfl, ?_⟩) ?_
  rotate_left
  ·
   (intro w hSw; (try dsimp only at hSw); go_simp; try with_reducible rfl)
  try simp only [Act.put, qa, qb, qc, qD, qE, qF]
  refine qTk (v := ?_) 1 rfl (.inl ⟨by rfl, ?_⟩) ?_
  rotate_left
  ·
   (intro w hSw; (try dsimp only at hSw); go_simp; try with_reducible rfl)
  try simp only [Act.put, qa, qb, qc, qD, qE, qF]
  refine qTk (v := ?_) 2 rfl (.inl ⟨by rfl, ?_⟩) ?_
  rotate_left
  ·
   (intro w hSw; (try dsimp only at hSw); go_simp; try with_reducible rfl)
  try simp only [Act.put, qa, qb, qc, qD, qE, qF]
  refine qTk (v := ?_) 3 rfl (.inl ⟨by rfl, ?_⟩) ?_
  rotate_left
  ·
   (intro w hSw; (try dsimp only at hSw); go_simp; try with_reducible rfl)
  try simp only [Act.put, qa, qb, qc, qD, qE, qF]
  refine qTk (v := ?_) 4 rfl (.inl ⟨by rfl, ?_⟩) ?_
  rotate_left
  ·
   (intro w hSw; (try dsimp only at hSw); go_simp; try with_reducible rfl)
  try simp only [Act.put, qa, qb, qc, qD, qE, qF]
  refine qTk (v := ?_) 5 rfl (.inl ⟨by rfl, ?_⟩) ?_
  rotate_left
  ·
   (intro w hSw; (try dsimp only at hSw); go_simp; try with_reducible rfl)
  try simp only [Act.put, qa, qb, qc, qD, qE, qF]
  refine qTk (v := ?_) 6 rfl (.inl ⟨by rfl, ?_⟩) ?_
  rotate_left
  ·
   (intro w hSw; (try dsimp only at hSw); go_simp; try with_reducible rfl)
  try simp only [Act.put, qa, qb, qc, qD, qE, qF]
  refine qTk (v := ?_) 7 rfl (.inl ⟨by rfl, ?_⟩) ?_
  rotate_left
  ·
   (intro w hSw; (try dsimp only at hSw); go_simp; try with_reducible rfl)
  try simp only [Act.put, qa, qb, qc, qD, qE, qF]
  refine qTk (v := ?_) 8 rfl (.inl ⟨by rfl, ?_⟩) ?_
  rotate_left
  ·
   (intro w hSw; (try dsimp only at hSw); go_simp; try with_reducible rfl)
  try simp only [Act.put, qa, qb, qc, qD, qE, qF]
  refine qTk (v := ?_) 9 rfl (.inl ⟨by rfl, ?_⟩) ?_
  rotate_left
  ·
   (intro w hSw; (try dsimp only at hSw); go_simp; try with_reducible rfl)
  try simp only [Act.put, qa, qb, qc, qD, qE, qF]
  refine qTk (v := ?_) 10 rfl (.inl ⟨by rfl, ?_⟩) ?_
  rotate_left
  ·
   (intro w hSw; (try dsimp only at hSw); go_simp; try with_reducible rfl)
  try simp only [Act.put, qa, qb, qc, qD, qE, qF]
  refine qTk (v := ?_) 11 rfl (.inl ⟨by rfl, ?_⟩) ?_
  rotate_left
  ·
   (intro w hSw; (try dsimp only at hSw); go_simp; try with_reducible rfl)
  try simp only [Act.put, qa, qb, qc, qD, qE, qF]
  refine wpTail_last (i := 12) qKr rfl rfl (fun K hK => ?_)
  try simp only [Act.put, qa, qb, qc, qD, qE, qF]
  go_simp
  refine hK.out _ _ ?_
  clear hK K
  try simp only [Act.put, qa, qb, qc, qD, qE, qF]
  refine wpTail_done qKr ?_ _
  clear hHeld hw0 hw1
  generalize hW3 : ((w7.setCell ⟨w1.heap.size, 0, none⟩ (.int .i64 (b1 + A * x))).drew) = w8 at *
  have Kw8 : Chg (w1.heap.size) (w1.heap.size + 1) w7 w8 := by subst hW3; exact qCh
  have Xw8 : Ext w w8 := by subst hW3; exact qXt
  replace ea0 := Kw8.cell (by omega) ea0
  replace eb0 := Kw8.cell (by omega) eb0
  replace va0 := Kw8.cell (by omega) va0
  replace va1 := Kw8.cell (by omega) va1
  replace va2 := Kw8.cell (by omega) va2
  replace sl0 := Kw8.cell (by omega) sl0
  replace sl1 := Kw8.cell (by omega) sl1
  replace sl2 := Kw8.cell (by omega) sl2
  replace sl3 := Kw8.cell (by omega) sl3
  replace sl4 := Kw8.cell (by omega) sl4
  replace q0 := Kw8.cell (by omega) q0
  replace f_q0 := Kw8.frzO (by omega) z_q f_q0
  replace q1 := Kw8.cell (by omega) q1
  replace f_q1 := Kw8.frzO (by omega) z_q f_q1
  replace q2 := Kw8.cell (by omega) q2
  replace f_q2 := Kw8.frzO (by omega) z_q f_q2
  replace y0 : w8.cell? ⟨w1.heap.size, 0, none⟩ = some (.int .i64 (b1 + A * x)) := by subst hW3; go_simp
  replace f_y0 : w8.frozen? ⟨w1.heap.size, 0, none⟩ = false := by subst hW3; go_simp
  replace y1 : w8.cell? ⟨w1.heap.size, 1, none⟩ = some (.slice (some ⟨g1, 0, none⟩) s1.length r1) := by subst hW3; go_simp
  replace f_y1 : w8.frozen? ⟨w1.heap.size, 1, none⟩ = false := by subst hW3; go_simp
  replace y2 : w8.cell? ⟨w1.heap.size, 2, none⟩ = some (.slice (some ⟨g2, 0, none⟩) t1.length r2) := by subst hW3; go_simp
  replace f_y2 : w8.frozen? ⟨w1.heap.size, 2, none⟩ = false := by subst hW3; go_simp
  replace e0 := Kw8.cell (by omega) e0
  replace e1 := Kw8.cell (by omega) e1
  replace e2 := Kw8.cell (by omega) e2
  replace O1 := O1.chgN Kw8 (by omega)
  replace O2 := O2.chgN Kw8 (by omega)
  clear Kw8
  have z_ea : b1s < w8.heap.size := qB ea0
  have z_eb : b2s < w8.heap.size := qB eb0
  have z_va : w.heap.size < w8.heap.size := qB va0
  have z_sl : w.heap.size + 1 < w8.heap.size := qB sl0
  have z_q : w.heap.size + 1 + 1 < w8.heap.size := qB q0
  have z_y : w1.heap.size < w8.heap.size := qB y0
  have z_e : g < w8.heap.size := qB e0
  have s_w8 : w.heap.size ≤ w8.heap.size := Xw8.size
  clear hW3
  have B1 := O2.cell d hd2
  obtain ⟨B1a, B1b⟩ := B1
  go_wp2_with fail
  have hw0 : IntKind.i64.wrap (A3 * x) = A3 * x := IntWalk.i64_in _ (by omega)
  refine wp_region_tail (S := fun w' => w'.cell? ⟨b2s, o2s + d, none⟩ = some (.int .i64 x) ∧ w'.cell? ⟨w.heap.size, 2, none⟩ = some (.slice (some ⟨b2s, o2s, none⟩) t1.length cp2) ∧ w'.cell? ⟨w1.heap.size, 2, none⟩ = some (.slice (some ⟨g2, 0, none⟩) t1.length r2) ∧ w'.cell? ⟨g, 2, none⟩ = some (.int .i64 A3)) (fun i => decide (12 ≤ i)) qKr ⟨eb0, va2, y2, e2⟩ (fun hHeld => ?_)
  refine qTk (v := ?_) 0 rfl (.inl ⟨by rfl, ?_⟩) ?_
  rotate_left
  ·
   (intro w hSw; (try dsimp only at hSw); go_simp; try with_reducible rfl)
  try simp only [Act.put, qa, qb, qc, qD, qE, qF]
  refine qTk (v := ?_) 1 rfl (.inl ⟨by rfl, ?_⟩) ?_
  rotate_left
  ·
   (intro w hSw; (try dsimp only at hSw); go_simp; try with_reducible rfl)
  try simp only [Act.put, qa, qb, qc, qD, qE, qF]
  refine qTk (v := ?_) 2 rfl (.inl ⟨by rfl, ?_⟩) ?_
  rotate_left
  ·
   (intro w hSw; (try dsimp only at hSw); go_simp; try with_reducible rfl)
  try simp only [Act.put, qa, qb, qc, qD, qE, qF]
  refine qTk (v := ?_) 3 rfl (.inl ⟨by rfl, ?_⟩) ?_
  rotate_left
  ·
   (intro w hSw; (try dsimp only at hSw); go_simp; try with_reducible rfl)
  try simp only [Act.put, qa, qb, qc, qD, qE, qF]
  refine qTk (v := ?_) 4 rfl (.inl ⟨by rfl, ?_⟩) ?_
  rotate_left
  ·
   (intro w hSw; (try dsimp only at hSw); go_simp; try with_reducible rfl)
  try simp only [Act.put, qa, qb, qc, qD, qE, qF]
  refine qTk (v := ?_) 5 rfl (.inl ⟨by rfl, ?_⟩) ?_
  rotate_left
  ·
   (intro w hSw; (try dsimp only at hSw); go_simp; try with_reducible rfl)
  try simp only [Act.put, qa, qb, qc, qD, qE, qF]
  refine qTk (v := ?_) 6 rfl (.inl ⟨by rfl, ?_⟩) ?_
  rotate_left
  ·
   (intro w hSw; (try dsimp only at hSw); go_simp; try with_reducible rfl)
  try simp only [Act.put, qa, qb, qc, qD, qE, qF]
  refine qTk (v := ?_) 7 rfl (.inl ⟨by rfl, ?_⟩) ?_
  rotate_left
  ·
   (intro w hSw; (try dsimp only at hSw); go_simp; try with_reducible rfl)
  try simp only [Act.put, qa, qb, qc, qD, qE, qF]
  refine qTk (v := ?_) 8 rfl (.inl ⟨by rfl, ?_⟩) ?_
  rotate_left
  ·
   (intro w hSw; (try dsimp only at hSw); go_simp; try with_reducible rfl)
  try simp only [Act.put, qa, qb, qc, qD, qE, qF]
  refine qTk (v := ?_) 9 rfl (.inl ⟨by rfl, ?_⟩) ?_
  rotate_left
  ·
   (intro w hSw; (try dsimp only at hSw); go_simp; try with_reducible rfl)
  try simp only [Act.put, qa, qb, qc, qD, qE, qF]
  refine qTk (v := ?_) 10 rfl (.inl ⟨by rfl, ?_⟩) ?_
  rotate_left
  ·
   (intro w hSw; (try dsimp only at hSw); go_simp; try with_reducible rfl)
  try simp only [Act.put, qa, qb, qc, qD, qE, qF]
  refine qTk (v := ?_) 11 rfl (.inl ⟨by rfl, ?_⟩) ?_
  rotate_left
  ·
   (intro w hSw; (try dsimp only at hSw); go_simp; try with_reducible rfl)
  try simp only [Act.put, qa, qb, qc, qD, qE, qF]
  refine wpTail_last (i := 12) qKr rfl rfl (fun K hK => ?_)
  try simp only [Act.put, qa, qb, qc, qD, qE, qF]
  go_simp
  refine hK.out _ _ ?_
  clear hK K
  try simp only [Act.put, qa, qb, qc, qD, qE, qF]
  refine wpTail_done qKr ?_ _
  clear hHeld hw0
  generalize hW4 : ((w8.setCell ⟨g2, d, none⟩ (.int .i64 (A3 * x))).drew) = w9 at *
  have Kw9 : Chg (g2) (g2 + 1) w8 w9 := by subst hW4; exact qCh
  have Xw9 : Ext w w9 := by subst hW4; exact qXt
  replace ea0 := Kw9.cell (by omega) ea0
  replace eb0 := Kw9.cell (by omega) eb0
  replace va0 := Kw9.cell (by omega) va0
  replace va1 := Kw9.cell (by omega) va1
  replace va2 := Kw9.cell (by omega) va2
  replace sl0 := Kw9.cell (by omega) sl0
  replace sl1 := Kw9.cell (by omega) sl1
  replace sl2 := Kw9.cell (by omega) sl2
  replace sl3 := Kw9.cell (by omega) sl3
  replace sl4 := Kw9.cell (by omega) sl4
  replace q0 := Kw9.cell (by omega) q0
  replace f_q0 := Kw9.frzO (by omega) z_q f_q0
  replace q1 := Kw9.cell (by omega) q1
  replace f_q1 := Kw9.frzO (by omega) z_q f_q1
  replace q2 := Kw9.cell (by omega) q2
  replace f_q2 := Kw9.frzO (by omega) z_q f_q2
  replace y0 := Kw9.cell (by omega) y0
  replace f_y0 := Kw9.frzO (by omega) z_y f_y0
  replace y1 := Kw9.cell (by omega) y1
  replace f_y1 := Kw9.frzO (by omega) z_y f_y1
  replace y2 := Kw9.cell (by omega) y2
  replace f_y2 := Kw9.frzO (by omega) z_y f_y2
  replace e0 := Kw9.cell (by omega) e0
  replace e1 := Kw9.cell (by omega) e1
  replace e2 := Kw9.cell (by omega) e2
  replace O1 := O1.chgN Kw9 (by omega)
  have n_O2 := O2.setD d (A3 * x) (by first | omega | (simp; omega))
  rw [hW4] at n_O2
  replace O2 := n_O2
  clear n_O2
  clear Kw9
  have z_ea : b1s < w9.heap.size := qB ea0
  have z_eb : b2s < w9.heap.size := qB eb0
  have z_va : w.heap.size < w9.heap.size := qB va0
  have z_sl : w.heap.size + 1 < w9.heap.size := qB sl0
  have z_q : w.heap.size + 1 + 1 < w9.heap.size := qB q0
  have z_y : w1.heap.size < w9.heap.size := qB y0
  have z_e : g < w9.heap.size := qB e0
  have s_w9 : w.heap.size ≤ w9.heap.size := Xw9.size
  clear hW4
  clear ea0
  clear eb0
  clear e0 e1 e2
  clear sl0 sl1 sl2 sl3 sl4
  clear va0 va1 va2
  clear hLb hnum hsl hst hin hAx hCx
  have hz1 := O1.len
  have hz2 := O2.len
  by_cases hle : L.length ≤ 1
  ·
   have hleI : (L.length : Int) ≤ 1 := by omega
   have B1 := O2.cell d (by simpa using hd2)
   obtain ⟨B1a, B1b⟩ := B1
   go_wp2_with fail
   generalize hW5 : (w9.setCell ⟨g2, d, none⟩ (.int .i64 0)) = w10 at *
   have Kw10 : Chg (g2) (g2 + 1) w9 w10 := by subst hW5; exact qCh
   have Xw10 : Ext w w10 := by subst hW5; exact qXt
   replace q0 := Kw10.cell (by omega) q0
   replace f_q0 := Kw10.frzO (by omega) z_q f_q0
   replace q1 := Kw10.cell (by omega) q1
   replace f_q1 := Kw10.frzO (by omega) z_q f_q1
   replace q2 := Kw10.cell (by omega) q2
   replace f_q2 := Kw10.frzO (by omega) z_q f_q2
   replace y0 := Kw10.cell (by omega) y0
   replace f_y0 := Kw10.frzO (by omega) z_y f_y0
   replace y1 := Kw10.cell (by omega) y1
   replace f_y1 := Kw10.frzO (by omega) z_y f_y1
   replace y2 := Kw10.cell (by omega) y2
   replace f_y2 := Kw10.frzO (by omega) z_y f_y2
   replace O1 := O1.chgN Kw10 (by omega)
   have n_O2 := O2.set d (0) (by first | omega | (simp; omega))
   rw [hW5] at n_O2
   replace O2 := n_O2
   clear n_O2
   clear Kw10
   have z_q : w.heap.size + 1 + 1 < w10.heap.size := qB q0
   have z_y : w1.heap.size < w10.heap.size := qB y0
   have s_w10 : w.heap.size ≤ w10.heap.size := Xw10.size
   clear hW5
   rw [List.set_set] at O2
   by_cases hz : countL (s1.set d (L.length : Int)) = 0
   ·
    have hT : Hid (cutT s1 t1 d L = List.replicate s1.length 0) := Lib.hid (by unfold cutT tidyT; rw [if_pos hz, List.length_set])
    have hB : Hid (cutB b1 s1 t1 d L = 0) := Lib.hid (by unfold cutB tidyB; rw [if_pos hz])
    have hi1 := O1.ints hz1
    have hi2 := O2.ints (by simpa using hz2)
    have hzH := Lib.hid hz
    clear hz hle
    have zq0 := z_q
    have zy0 := z_y
    go_wp2_with fail
    refine (tidy_0 (b1 + A * x) _ _ (s1.set d (L.length : Int)) _ _ (hi1.ext qXt) hzH.out).mono ?_
    rintro e w11 ⟨st, rfl, O3, xw11⟩
    have Lw11 : Ext w10 w11 := Ext.trans qXt xw11
    have Xw11 : Ext w w11 := Xw10.trans Lw11
    replace q0 := Lw11.cell q0
    replace q1 := Lw11.cell q1
    replace q2 := Lw11.cell q2
    replace f_q0 := Lw11.frz z_q f_q0
    replace f_q1 := Lw11.frz z_q f_q1
    replace f_q2 := Lw11.frz z_q f_q2
    replace y0 := Lw11.cell y0
    replace y1 := Lw11.cell y1
    replace y2 := Lw11.cell y2
    replace f_y0 := Lw11.frz z_y f_y0
    replace f_y1 := Lw11.frz z_y f_y1
    replace f_y2 := Lw11.frz z_y f_y2
    have z_q : w.heap.size + 1 + 1 < w11.heap.size := qB q0
    have z_y : w1.heap.size < w11.heap.size := qB y0
    replace O1 := O1.ext Lw11
    replace O2 := O2.ext Lw11
    have s_w11 : w.heap.size ≤ w11.heap.size := Xw11.size
    clear xw11
    have hne3 : List.replicate (s1.set d (L.length : Int)).length (0 : Int) ≠ [] := by simp; exact hne1
    obtain ⟨g3, r3, rfl, G3, G3'⟩ := O3.row hne3
    simp only [List.length_replicate, List.length_set] at O3 ⊢
    have G3b : w.heap.size + 3 ≤ g3 := by omega
    clear hi1 hi2

    go_wp2_with fail
    generalize hW6 : (((w11.setCell ⟨w.heap.size + 1 + 1, 0, none⟩ (.int .i64 0)).setCell ⟨w.heap.size + 1 + 1, 1, none⟩ (.slice (some ⟨g1, 0, none⟩) s1.length r1)).setCell ⟨w.heap.size + 1 + 1, 2, none⟩ (.slice (some ⟨g3, 0, none⟩) s1.length r3)) = w12 at *
    have Kw12 : Chg (w.heap.size + 1 + 1) (w.heap.size + 1 + 1 + 1) w11 w12 := by subst hW6; exact qCh
    have Xw12 : Ext w w12 := by subst hW6; exact qXt
    replace q0 : w12.cell? ⟨w.heap.size + 1 + 1, 0, none⟩ = some (.int .i64 0) := by subst hW6; go_simp
    replace f_q0 : w12.frozen? ⟨w.heap.size + 1 + 1, 0, none⟩ = false := by subst hW6; go_simp
    replace q1 : w12.cell? ⟨w.heap.size + 1 + 1, 1, none⟩ = some (.slice (some ⟨g1, 0, none⟩) s1.length r1) := by subst hW6; go_simp
    replace f_q1 : w12.frozen? ⟨w.heap.size + 1 + 1, 1, none⟩ = false := by subst hW6; go_simp
    replace q2 : w12.cell? ⟨w.heap.size + 1 + 1, 2, none⟩ = some (.slice (some ⟨g3, 0, none⟩) s1.length r3) := by subst hW6; go_simp
    replace f_q2 : w12.frozen? ⟨w.heap.size + 1 + 1, 2, none⟩ = false := by subst hW6; go_simp
    replace y0 := Kw12.cell (by omega) y0
    replace f_y0 := Kw12.frzO (by omega) z_y f_y0
    replace y1 := Kw12.cell (by omega) y1
    replace f_y1 := Kw12.frzO (by omega) z_y f_y1
    replace y2 := Kw12.cell (by omega) y2
    replace f_y2 := Kw12.frzO (by omega) z_y f_y2
    replace O1 := O1.chgN Kw12 (by omega)
    replace O2 := O2.chgN Kw12 (by omega)
    replace O3 := O3.chgN Kw12 (by omega)
    clear Kw12
    have z_q : w.heap.size + 1 + 1 < w12.heap.size := qB q0
    have z_y : w1.heap.size < w12.heap.size := qB y0
    have s_w12 : w.heap.size ≤ w12.heap.size := Xw12.size
    clear hW6
    refine bodyPost_ret (v := .agg #[.int .i64 0, .slice (some ⟨g1, 0, none⟩) s1.length r1, .slice (some ⟨g3, 0, none⟩) s1.length r3]) (by simp only [results, Try.results150]; go_simp) rfl ?_
    rw [hT.out, hB.out]
    exact PView.own (O1.lower (by omega)).z (O3.lower (by omega)).z (fun _ _ => by simp [Value.ownBlock]; omega) (by unfold cutS; simpa using hlen1) (by simp <;> omega) Xw12
   ·
    have hT : Hid (cutT s1 t1 d L = t1.set d 0) := Lib.hid (by unfold cutT tidyT; rw [if_neg hz, if_pos hle])
    have hB : Hid (cutB b1 s1 t1 d L = b1 + A * x) := Lib.hid (by unfold cutB tidyB; rw [if_neg hz, hN1.out, hg2.out])
    have hi1 := O1.ints hz1
    have hi2 := O2.ints (by simpa using hz2)
    have hzH := Lib.hid hz
    clear hz hle
    have zq0 := z_q
    have zy0 := z_y
    go_wp2_with fail
    refine (tidy_1 (b1 + A * x) _ _ (s1.set d (L.length : Int)) (t1.set d 0) _ _ _ (hi1.ext qXt) (hi2.ext qXt) hzH.out).mono ?_
    rintro e w11 ⟨rfl, xw11⟩
    have Lw11 : Ext w10 w11 := Ext.trans qXt xw11
    have Xw11 : Ext w w11 := Xw10.trans Lw11
    replace q0 := Lw11.cell q0
    replace q1 := Lw11.cell q1
    replace q2 := Lw11.cell q2
    replace f_q0 := Lw11.frz z_q f_q0
    replace f_q1 := Lw11.frz z_q f_q1
    replace f_q2 := Lw11.frz z_q f_q2
    replace y0 := Lw11.cell y0
    replace y1 := Lw11.cell y1
    replace y2 := Lw11.cell y2
    replace f_y0 := Lw11.frz z_y f_y0
    replace f_y1 := Lw11.frz z_y f_y1
    replace f_y2 := Lw11.frz z_y f_y2
    have z_q : w.heap.size + 1 + 1 < w11.heap.size := qB q0
    have z_y : w1.heap.size < w11.heap.size := qB y0
    replace O1 := O1.ext Lw11
    replace O2 := O2.ext Lw11
    have s_w11 : w.heap.size ≤ w11.heap.size := Xw11.size
    clear xw11
    clear hi1 hi2

    go_wp2_with fail
    generalize hW7 : (((w11.setCell ⟨w.heap.size + 1 + 1, 0, none⟩ (.int .i64 (b1 + A * x))).setCell ⟨w.heap.size + 1 + 1, 1, none⟩ (.slice (some ⟨g1, 0, none⟩) s1.length r1)).setCell ⟨w.heap.size + 1 + 1, 2, none⟩ (.slice (some ⟨g2, 0, none⟩) t1.length r2)) = w12 at *
    have Kw12 : Chg (w.heap.size + 1 + 1) (w.heap.size + 1 + 1 + 1) w11 w12 := by subst hW7; exact qCh
    have Xw12 : Ext w w12 := by subst hW7; exact qXt
    replace q0 : w12.cell? ⟨w.heap.size + 1 + 1, 0, none⟩ = some (.int .i64 (b1 + A * x)) := by subst hW7; go_simp
    replace f_q0 : w12.frozen? ⟨w.heap.size + 1 + 1, 0, none⟩ = false := by subst hW7; go_simp
    replace q1 : w12.cell? ⟨w.heap.size + 1 + 1, 1, none⟩ = some (.slice (some ⟨g1, 0, none⟩) s1.length r1) := by subst hW7; go_simp
    replace f_q1 : w12.frozen? ⟨w.heap.size + 1 + 1, 1, none⟩ = false := by subst hW7; go_simp
    replace q2 : w12.cell? ⟨w.heap.size + 1 + 1, 2, none⟩ = some (.slice (some ⟨g2, 0, none⟩) t1.length r2) := by subst hW7; go_simp
    replace f_q2 : w12.frozen? ⟨w.heap.size + 1 + 1, 2, none⟩ = false := by subst hW7; go_simp
    replace y0 := Kw12.cell (by omega) y0
    replace f_y0 := Kw12.frzO (by omega) z_y f_y0
    replace y1 := Kw12.cell (by omega) y1
    replace f_y1 := Kw12.frzO (by omega) z_y f_y1
    replace y2 := Kw12.cell (by omega) y2
    replace f_y2 := Kw12.frzO (by omega) z_y f_y2
    replace O1 := O1.chgN Kw12 (by omega)
    replace O2 := O2.chgN Kw12 (by omega)
    clear Kw12
    have z_q : w.heap.size + 1 + 1 < w12.heap.size := qB q0
    have z_y : w1.heap.size < w12.heap.size := qB y0
    have s_w12 : w.heap.size ≤ w12.heap.size := Xw12.size
    clear hW7
    refine bodyPost_ret (v := .agg #[.int .i64 (b1 + A * x), .slice (some ⟨g1, 0, none⟩) s1.length r1, .slice (some ⟨g2, 0, none⟩) t1.length r2]) (by simp only [results, Try.results150]; go_simp) rfl ?_
    rw [hT.out, hB.out]
    exact PView.own (O1.lower (by omega)).z (O2.lower (by omega)).z (fun _ _ => by simp [Value.ownBlock]; omega) (by unfold cutS; simpa using hlen1) (by simp <;> omega) Xw12
  ·
   have hleI : ¬ (L.length : Int) ≤ 1 := by omega
   by_cases hz : countL (s1.set d (L.length : Int)) = 0
   ·
    have hT : Hid (cutT s1 t1 d L = List.replicate s1.length 0) := Lib.hid (by unfold cutT tidyT; rw [if_pos hz, List.length_set])
    have hB : Hid (cutB b1 s1 t1 d L = 0) := Lib.hid (by unfold cutB tidyB; rw [if_pos hz])
    have hi1 := O1.ints hz1
    have hi2 := O2.ints (by simpa using hz2)
    have hzH := Lib.hid hz
    clear hz hle
    have zq0 := z_q
    have zy0 := z_y
    go_wp2_with fail
    refine (tidy_0 (b1 + A * x) _ _ (s1.set d (L.length : Int)) _ _ (hi1.ext qXt) hzH.out).mono ?_
    rintro e w10 ⟨st, rfl, O3, xw10⟩
    have Lw10 : Ext w9 w10 := Ext.trans qXt xw10
    have Xw10 : Ext w w10 := Xw9.trans Lw10
    replace q0 := Lw10.cell q0
    replace q1 := Lw10.cell q1
    replace q2 := Lw10.cell q2
    replace f_q0 := Lw10.frz z_q f_q0
    replace f_q1 := Lw10.frz z_q f_q1
    replace f_q2 := Lw10.frz z_q f_q2
    replace y0 := Lw10.cell y0
    replace y1 := Lw10.cell y1
    replace y2 := Lw10.cell y2
    replace f_y0 := Lw10.frz z_y f_y0
    replace f_y1 := Lw10.frz z_y f_y1
    replace f_y2 := Lw10.frz z_y f_y2
    have z_q : w.heap.size + 1 + 1 < w10.heap.size := qB q0
    have z_y : w1.heap.size < w10.heap.size := qB y0
    replace O1 := O1.ext Lw10
    replace O2 := O2.ext Lw10
    have s_w10 : w.heap.size ≤ w10.heap.size := Xw10.size
    clear xw10
    have hne3 : List.replicate (s1.set d (L.length : Int)).length (0 : Int) ≠ [] := by simp; exact hne1
    obtain ⟨g3, r3, rfl, G3, G3'⟩ := O3.row hne3
    simp only [List.length_replicate, List.length_set] at O3 ⊢
    have G3b : w.heap.size + 3 ≤ g3 := by omega
    clear hi1 hi2

    go_wp2_with fail
    generalize hW8 : (((w10.setCell ⟨w.heap.size + 1 + 1, 0, none⟩ (.int .i64 0)).setCell ⟨w.heap.size + 1 + 1, 1, none⟩ (.slice (some ⟨g1, 0, none⟩) s1.length r1)).setCell ⟨w.heap.size + 1 + 1, 2, none⟩ (.slice (some ⟨g3, 0, none⟩) s1.length r3)) = w11 at *
    have Kw11 : Chg (w.heap.size + 1 + 1) (w.heap.size + 1 + 1 + 1) w10 w11 := by subst hW8; exact qCh
    have Xw11 : Ext w w11 := by subst hW8; exact qXt
    replace q0 : w11.cell? ⟨w.heap.size + 1 + 1, 0, none⟩ = some (.int .i64 0) := by subst hW8; go_simp
    replace f_q0 : w11.frozen? ⟨w.heap.size + 1 + 1, 0, none⟩ = false := by subst hW8; go_simp
    replace q1 : w11.cell? ⟨w.heap.size + 1 + 1, 1, none⟩ = some (.slice (some ⟨g1, 0, none⟩) s1.length r1) := by subst hW8; go_simp
    replace f_q1 : w11.frozen? ⟨w.heap.size + 1 + 1, 1, none⟩ = false := by subst hW8; go_simp
    replace q2 : w11.cell? ⟨w.heap.size + 1 + 1, 2, none⟩ = some (.slice (some ⟨g3, 0, none⟩) s1.length r3) := by subst hW8; go_simp
    replace f_q2 : w11.frozen? ⟨w.heap.size + 1 + 1, 2, none⟩ = false := by subst hW8; go_simp
    replace y0 := Kw11.cell (by omega) y0
    replace f_y0 := Kw11.frzO (by omega) z_y f_y0
    replace y1 := Kw11.cell (by omega) y1
    replace f_y1 := Kw11.frzO (by omega) z_y f_y1
    replace y2 := Kw11.cell (by omega) y2
    replace f_y2 := Kw11.frzO (by omega) z_y f_y2
    replace O1 := O1.chgN Kw11 (by omega)
    replace O2 := O2.chgN Kw11 (by omega)
    replace O3 := O3.chgN Kw11 (by omega)
    clear Kw11
    have z_q : w.heap.size + 1 + 1 < w11.heap.size := qB q0
    have z_y : w1.heap.size < w11.heap.size := qB y0
    have s_w11 : w.heap.size ≤ w11.heap.size := Xw11.size
    clear hW8
    refine bodyPost_ret (v := .agg #[.int .i64 0, .slice (some ⟨g1, 0, none⟩) s1.length r1, .slice (some ⟨g3, 0, none⟩) s1.length r3]) (by simp only [results, Try.results150]; go_simp) rfl ?_
    rw [hT.out, hB.out]
    exact PView.own (O1.lower (by omega)).z (O3.lower (by omega)).z (fun _ _ => by simp [Value.ownBlock]; omega) (by unfold cutS; simpa using hlen1) (by simp <;> omega) Xw11
   ·
    have hT : Hid (cutT s1 t1 d L = t1.set d (A3 * x)) := Lib.hid (by unfold cutT tidyT; rw [if_neg hz, if_neg hle, hN3.out, hg2.out])
    have hB : Hid (cutB b1 s1 t1 d L = b1 + A * x) := Lib.hid (by unfold cutB tidyB; rw [if_neg hz, hN1.out, hg2.out])
    have hi1 := O1.ints hz1
    have hi2 := O2.ints (by simpa using hz2)
    have hzH := Lib.hid hz
    clear hz hle
    have zq0 := z_q
    have zy0 := z_y
    go_wp2_with fail
    refine (tidy_1 (b1 + A * x) _ _ (s1.set d (L.length : Int)) (t1.set d (A3 * x)) _ _ _ (hi1.ext qXt) (hi2.ext qXt) hzH.out).mono ?_
    rintro e w10 ⟨rfl, xw10⟩
    have Lw10 : Ext w9 w10 := Ext.trans qXt xw10
    have Xw10 : Ext w w10 := Xw9.trans Lw10
    replace q0 := Lw10.cell q0
    replace q1 := Lw10.cell q1
    replace q2 := Lw10.cell q2
    replace f_q0 := Lw10.frz z_q f_q0
    replace f_q1 := Lw10.frz z_q f_q1
    replace f_q2 := Lw10.frz z_q f_q2
    replace y0 := Lw10.cell y0
    replace y1 := Lw10.cell y1
    replace y2 := Lw10.cell y2
    replace f_y0 := Lw10.frz z_y f_y0
    replace f_y1 := Lw10.frz z_y f_y1
    replace f_y2 := Lw10.frz z_y f_y2
    have z_q : w.heap.size + 1 + 1 < w10.heap.size := qB q0
    have z_y : w1.heap.size < w10.heap.size := qB y0
    replace O1 := O1.ext Lw10
    replace O2 := O2.ext Lw10
    have s_w10 : w.heap.size ≤ w10.heap.size := Xw10.size
    clear xw10
    clear hi1 hi2

    go_wp2_with fail
    generalize hW9 : (((w10.setCell ⟨w.heap.size + 1 + 1, 0, none⟩ (.int .i64 (b1 + A * x))).setCell ⟨w.heap.size + 1 + 1, 1, none⟩ (.slice (some ⟨g1, 0, none⟩) s1.length r1)).setCell ⟨w.heap.size + 1 + 1, 2, none⟩ (.slice (some ⟨g2, 0, none⟩) t1.length r2)) = w11 at *
    have Kw11 : Chg (w.heap.size + 1 + 1) (w.heap.size + 1 + 1 + 1) w10 w11 := by subst hW9; exact qCh
    have Xw11 : Ext w w11 := by subst hW9; exact qXt
    replace q0 : w11.cell? ⟨w.heap.size + 1 + 1, 0, none⟩ = some (.int .i64 (b1 + A * x)) := by subst hW9; go_simp
    replace f_q0 : w11.frozen? ⟨w.heap.size + 1 + 1, 0, none⟩ = false := by subst hW9; go_simp
    replace q1 : w11.cell? ⟨w.heap.size + 1 + 1, 1, none⟩ = some (.slice (some ⟨g1, 0, none⟩) s1.length r1) := by subst hW9; go_simp
    replace f_q1 : w11.frozen? ⟨w.heap.size + 1 + 1, 1, none⟩ = false := by subst hW9; go_simp
    replace q2 : w11.cell? ⟨w.heap.size + 1 + 1, 2, none⟩ = some (.slice (some ⟨g2, 0, none⟩) t1.length r2) := by subst hW9; go_simp
    replace f_q2 : w11.frozen? ⟨w.heap.size + 1 + 1, 2, none⟩ = false := by subst hW9; go_simp
    replace y0 := Kw11.cell (by omega) y0
    replace f_y0 := Kw11.frzO (by omega) z_y f_y0
    replace y1 := Kw11.cell (by omega) y1
    replace f_y1 := Kw11.frzO (by omega) z_y f_y1
    replace y2 := Kw11.cell (by omega) y2
    replace f_y2 := Kw11.frzO (by omega) z_y f_y2
    replace O1 := O1.chgN Kw11 (by omega)
    replace O2 := O2.chgN Kw11 (by omega)
    clear Kw11
    have z_q : w.heap.size + 1 + 1 < w11.heap.size := qB q0
    have z_y : w1.heap.size < w11.heap.size := qB y0
    have s_w11 : w.heap.size ≤ w11.heap.size := Xw11.size
    clear hW9
    refine bodyPost_ret (v := .agg #[.int .i64 (b1 + A * x), .slice (some ⟨g1, 0, none⟩) s1.length r1, .slice (some ⟨g2, 0, none⟩) t1.length r2]) (by simp only [results, Try.results150]; go_simp) rfl ?_
    rw [hT.out, hB.out]
    exact PView.own (O1.lower (by omega)).z (O2.lower (by omega)).z (fun _ _ => by simp [Value.ownBlock]; omega) (by unfold cutS; simpa using hlen1) (by simp <;> omega) Xw11

end Go.Proofs.Ytfbbnbpobojboaa

/- Walks: SliceDim and FlipDim of the reference. -/
namespace Go.Proofs.Ytfbbnbpobojboaa
open Go.RowKit
set_option linter.unusedVariables false
set_option maxRecDepth 100000


/-- a view with a bool -/
abbrev VBool := Int × List Int × List Int × Bool
def PVB (w : World) (x : VBool) : Ending → World → Prop := PViewB w x.1 x.2.1 x.2.2.1 x.2.2.2
def noV : VBool := (0, [], [], false)
theorem PVB.no {w w' : World} {x : VBool} (h : x = noV) (hx : Ext w w') : PVB w x (.returned (.tuple #[.agg #[.int .i64 0, .slice none 0 0, .slice none 0 0], .bool false])) w' := by
 subst h; exact PViewB.no hx
theorem PVB.yes {w w' : World} {x : VBool} {b : Int} {s t : List Int} {v1 v2 : Value} (h : x = (b, s, t, true)) (o1 : OwnZ w' w.heap.size v1 s) (o2 : OwnZ w' w.heap.size v2 t) (hd : s ≠ [] → t ≠ [] → v1.ownBlock ≠ v2.ownBlock) (l1 : s.length ≤ 4194304) (l2 : t.length ≤ 4194304) (hx : Ext w w') :
  PVB w x (.returned (.tuple #[.agg #[.int .i64 b, v1, v2], .bool true])) w' := by
 subst h; exact ⟨v1, v2, rfl, o1.ints l1, o2.ints l2, o1, o2, hd, hx⟩

def sliceV (b : Int) (s t : List Int) (d F T B : Int) (hf ht : Bool) : VBool :=
 if viewB b s t && (inB 0 ((s.length : Int) - 1) d && sliceB F T B hf ht) then
  (cutB b s t d.toNat (idxS (s.getD d.toNat 0) F T B hf ht), cutS s d.toNat (idxS (s.getD d.toNat 0) F T B hf ht), cutT s t d.toNat (idxS (s.getD d.toNat 0) F T B hf ht), true)
 else noV
theorem sliceV_view {b : Int} {s t : List Int} {d F T B : Int} {hf ht : Bool} (h : viewB b s t = true) (hd : 0 ≤ d ∧ d < s.length) (hs : sliceB F T B hf ht = true) :
  viewB (cutB b s t d.toNat (idxS (s.getD d.toNat 0) F T B hf ht)) (cutS s d.toNat (idxS (s.getD d.toNat 0) F T B hf ht)) (cutT s t d.toNat (idxS (s.getD d.toNat 0) F T B hf ht)) = true := by
 have hn := (shapeB_in (viewB_in h).1).2.1 _ (getD_mem (s := s) (d := d.toNat) (by omega))
 exact (cut_view h (by omega) (sliceB_in hs).2.2.2 (idxS_in hn.1 (sliceB_in hs).2.2.2)).1
theorem sliceV_yes {b : Int} {s t : List Int} {d F T B : Int} {hf ht : Bool} {L : List Int} (h : viewB b s t = true) (hb : inB 0 ((s.length : Int) - 1) d = true) (hs : sliceB F T B hf ht = true) (hL : idxS (s.getD d.toNat 0) F T B hf ht = L) :
  sliceV b s t d F T B hf ht = (cutB b s t d.toNat L, cutS s d.toNat L, cutT s t d.toNat L, true) := by
 unfold sliceV; rw [h, hb, hs, ← hL]; rfl

set_option maxHeartbeats 3200000 in
theorem specSliceDim_c (b1 : Int) (u1 v1 : Value) (s1 t1 : List Int) (d F T B : Int) (hf ht : Bool) (w : World) (l1 m1 : Nat) (h1 : Ints w l1 u1 s1) (k1 : Ints w m1 v1 t1) :
  Calls Try.prog 104 #[.agg #[.int .i64 b1, u1, v1], .int .i64 d, .agg #[.int .i64 F, .int .i64 T, .int .i64 B, .bool hf, .bool ht]] w (PVB w (sliceV b1 s1 t1 d F T B hf ht)) := by
 have hlen1 := ints_len h1
 have hlen2 := ints_len k1
 obtain ⟨a1, cp1, rfl⟩ := h1.form
 obtain ⟨a2, cp2, rfl⟩ := k1.form
 cases ha : viewB b1 s1 t1
 ·
  have hr : Hid (sliceV b1 s1 t1 d F T B hf ht = noV) := Lib.hid (by unfold sliceV; rw [ha]; rfl)
  replace ha := Lib.hid ha
  go_enter Try.func104, Try.ntmps104
  go_wp2_with fail
  refine (validView_c b1 _ _ s1 t1 _ l1 m1 (h1.ext qXt) (k1.ext qXt)).mono ?_
  rintro e w1 ⟨rfl, xw1⟩
  have Lw1 : Ext w w1 := Ext.trans qXt xw1
  have Xw1 : Ext w w1 := Lw1
  have va0 : w1.cell? ⟨w.heap.size, 0, none⟩ = some (.int .i64 b1) := xw1.cell qCl
  have va1 : w1.cell? ⟨w.heap.size, 1, none⟩ = some (.slice a1 s1.length cp1) := xw1.cell qCl
  have va2 : w1.cell? ⟨w.heap.size, 2, none⟩ = some (.slice a2 t1.length cp2) := xw1.cell qCl
  have sl0 : w1.cell? ⟨w.heap.size + 1, 0, none⟩ = some (.int .i64 F) := xw1.cell qCl
  have sl1 : w1.cell? ⟨w.heap.size + 1, 1, none⟩ = some (.int .i64 T) := xw1.cell qCl
  have sl2 : w1.cell? ⟨w.heap.size + 1, 2, none⟩ = some (.int .i64 B) := xw1.cell qCl
  have sl3 : w1.cell? ⟨w.heap.size + 1, 3, none⟩ = some (.bool hf) := xw1.cell qCl
  have sl4 : w1.cell? ⟨w.heap.size + 1, 4, none⟩ = some (.bool ht) := xw1.cell qCl
  have q0 : w1.cell? ⟨w.heap.size + 1 + 1, 0, none⟩ = some (.int .i64 0) := xw1.cell qCl
  have q1 : w1.cell? ⟨w.heap.size + 1 + 1, 1, none⟩ = some (.slice none 0 0) := xw1.cell qCl
  have q2 : w1.cell? ⟨w.heap.size + 1 + 1, 2, none⟩ = some (.slice none 0 0) := xw1.cell qCl
  have f_q0 : w1.frozen? ⟨w.heap.size + 1 + 1, 0, none⟩ = false := xw1.frz (by simp <;> omega) qFz
  have f_q1 : w1.frozen? ⟨w.heap.size + 1 + 1, 1, none⟩ = false := xw1.frz (by simp <;> omega) qFz
  have f_q2 : w1.frozen? ⟨w.heap.size + 1 + 1, 2, none⟩ = false := xw1.frz (by simp <;> omega) qFz
  have z_va : w.heap.size < w1.heap.size := qB va0
  have z_sl : w.heap.size + 1 < w1.heap.size := qB sl0
  have z_q : w.heap.size + 1 + 1 < w1.heap.size := qB q0
  have s_w1 : w.heap.size ≤ w1.heap.size := Xw1.size
  clear xw1
  rw [ha.out]
  go_wp2_with fail
  refine bodyPost_ret (v := .tuple #[.agg #[.int .i64 0, .slice none 0 0, .slice none 0 0], .bool false]) (by simp only [results, Try.results104]; go_simp) rfl ?_
  exact PVB.no hr.out qXt
 ·
  cases hb : inB 0 ((s1.length : Int) - 1) d
  ·
   have hr : Hid (sliceV b1 s1 t1 d F T B hf ht = noV) := Lib.hid (by unfold sliceV; rw [ha, hb]; rfl)
   obtain ⟨j1, -⟩ := viewB_in ha
   have j4 := (shapeB_in j1).1
   replace ha := Lib.hid ha
   replace hb := Lib.hid hb
   clear j1
   go_enter Try.func104, Try.ntmps104
   go_wp2_with fail
   refine (validView_c b1 _ _ s1 t1 _ l1 m1 (h1.ext qXt) (k1.ext qXt)).mono ?_
   rintro e w1 ⟨rfl, xw1⟩
   have Lw1 : Ext w w1 := Ext.trans qXt xw1
   have Xw1 : Ext w w1 := Lw1
   have va0 : w1.cell? ⟨w.heap.size, 0, none⟩ = some (.int .i64 b1) := xw1.cell qCl
   have va1 : w1.cell? ⟨w.heap.size, 1, none⟩ = some (.slice a1 s1.length cp1) := xw1.cell qCl
   have va2 : w1.cell? ⟨w.heap.size, 2, none⟩ = some (.slice a2 t1.length cp2) := xw1.cell qCl
   have sl0 : w1.cell? ⟨w.heap.size + 1, 0, none⟩ = some (.int .i64 F) := xw1.cell qCl
   have sl1 : w1.cell? ⟨w.heap.size + 1, 1, none⟩ = some (.int .i64 T) := xw1.cell qCl
   have sl2 : w1.cell? ⟨w.heap.size + 1, 2, none⟩ = some (.int .i64 B) := xw1.cell qCl
   have sl3 : w1.cell? ⟨w.heap.size + 1, 3, none⟩ = some (.bool hf) := xw1.cell qCl
   have sl4 : w1.cell? ⟨w.heap.size + 1, 4, none⟩ = some (.bool ht) := xw1.cell qCl
   have q0 : w1.cell? ⟨w.heap.size + 1 + 1, 0, none⟩ = some (.int .i64 0) := xw1.cell qCl
   have q1 : w1.cell? ⟨w.heap.size + 1 + 1, 1, none⟩ = some (.slice none 0 0) := xw1.cell qCl
   have q2 : w1.cell? ⟨w.heap.size + 1 + 1, 2, none⟩ = some (.slice none 0 0) := xw1.cell qCl
   have f_q0 : w1.frozen? ⟨w.heap.size + 1 + 1, 0, none⟩ = false := xw1.frz (by simp <;> omega) qFz
   have f_q1 : w1.frozen? ⟨w.heap.size + 1 + 1, 1, none⟩ = false := xw1.frz (by simp <;> omega) qFz
   have f_q2 : w1.frozen? ⟨w.heap.size + 1 + 1, 2, none⟩ = false := xw1.frz (by simp <;> omega) qFz
   have z_va : w.heap.size < w1.heap.size := qB va0
   have z_sl : w.heap.size + 1 < w1.heap.size := qB sl0
   have z_q : w.heap.size + 1 + 1 < w1.heap.size := qB q0
   have s_w1 : w.heap.size ≤ w1.heap.size := Xw1.size
   clear xw1
   rw [ha.out]
   go_wp2_with fail
   refine (isDim_c b1 _ _ s1 t1 d _ l1 m1 (h1.ext (Xw1.trans qXt)) (k1.ext (Xw1.trans qXt)) (by omega)).mono ?_
   rintro e w2 ⟨rfl, xw2⟩
   have Lw2 : Ext w1 w2 := Ext.trans qXt xw2
   have Xw2 : Ext w w2 := Xw1.trans Lw2
   replace va0 := Lw2.cell va0
   replace va1 := Lw2.cell va1
   replace va2 := Lw2.cell va2
   replace sl0 := Lw2.cell sl0
   replace sl1 := Lw2.cell sl1
   replace sl2 := Lw2.cell sl2
   replace sl3 := Lw2.cell sl3
   replace sl4 := Lw2.cell sl4
   replace q0 := Lw2.cell q0
   replace q1 := Lw2.cell q1
   replace q2 := Lw2.cell q2
   replace f_q0 := Lw2.frz z_q f_q0
   replace f_q1 := Lw2.frz z_q f_q1
   replace f_q2 := Lw2.frz z_q f_q2
   have z_va : w.heap.size < w2.heap.size := qB va0
   have z_sl : w.heap.size + 1 < w2.heap.size := qB sl0
   have z_q : w.heap.size + 1 + 1 < w2.heap.size := qB q0
   have s_w2 : w.heap.size ≤ w2.heap.size := Xw2.size
   clear xw2
   rw [hb.out]
   go_wp2_with fail
   refine bodyPost_ret (v := .tuple #[.agg #[.int .i64 0, .slice none 0 0, .slice none 0 0], .bool false]) (by simp only [results, Try.results104]; go_simp) rfl ?_
   exact PVB.no hr.out qXt
  ·
   obtain ⟨j1, -⟩ := viewB_in ha
   have j4 := (shapeB_in j1).1
   clear j1
   cases hc : sliceB F T B hf ht
   ·
    have hr : Hid (sliceV b1 s1 t1 d F T B hf ht = noV) := Lib.hid (by unfold sliceV; rw [ha, hb, hc]; rfl)
    replace ha := Lib.hid ha
    replace hb := Lib.hid hb
    replace hc := Lib.hid hc
    go_enter Try.func104, Try.ntmps104
    go_wp2_with fail
    refine (validView_c b1 _ _ s1 t1 _ l1 m1 (h1.ext qXt) (k1.ext qXt)).mono ?_
    rintro e w1 ⟨rfl, xw1⟩
    have Lw1 : Ext w w1 := Ext.trans qXt xw1
    have Xw1 : Ext w w1 := Lw1
    have va0 : w1.cell? ⟨w.heap.size, 0, none⟩ = some (.int .i64 b1) := xw1.cell qCl
    have va1 : w1.cell? ⟨w.heap.size, 1, none⟩ = some (.slice a1 s1.length cp1) := xw1.cell qCl
    have va2 : w1.cell? ⟨w.heap.size, 2, none⟩ = some (.slice a2 t1.length cp2) := xw1.cell qCl
    have sl0 : w1.cell? ⟨w.heap.size + 1, 0, none⟩ = some (.int .i64 F) := xw1.cell qCl
    have sl1 : w1.cell? ⟨w.heap.size + 1, 1, none⟩ = some (.int .i64 T) := xw1.cell qCl
    have sl2 : w1.cell? ⟨w.heap.size + 1, 2, none⟩ = some (.int .i64 B) := xw1.cell qCl
    have sl3 : w1.cell? ⟨w.heap.size + 1, 3, none⟩ = some (.bool hf) := xw1.cell qCl
    have sl4 : w1.cell? ⟨w.heap.size + 1, 4, none⟩ = some (.bool ht) := xw1.cell qCl
    have q0 : w1.cell? ⟨w.heap.size + 1 + 1, 0, none⟩ = some (.int .i64 0) := xw1.cell qCl
    have q1 : w1.cell? ⟨w.heap.size + 1 + 1, 1, none⟩ = some (.slice none 0 0) := xw1.cell qCl
    have q2 : w1.cell? ⟨w.heap.size + 1 + 1, 2, none⟩ = some (.slice none 0 0) := xw1.cell qCl
    have f_q0 : w1.frozen? ⟨w.heap.size + 1 + 1, 0, none⟩ = false := xw1.frz (by simp <;> omega) qFz
    have f_q1 : w1.frozen? ⟨w.heap.size + 1 + 1, 1, none⟩ = false := xw1.frz (by simp <;> omega) qFz
    have f_q2 : w1.frozen? ⟨w.heap.size + 1 + 1, 2, none⟩ = false := xw1.frz (by simp <;> omega) qFz
    have z_va : w.heap.size < w1.heap.size := qB va0
    have z_sl : w.heap.size + 1 < w1.heap.size := qB sl0
    have z_q : w.heap.size + 1 + 1 < w1.heap.size := qB q0
    have s_w1 : w.heap.size ≤ w1.heap.size := Xw1.size
    clear xw1
    rw [ha.out]
    go_wp2_with fail
    refine (isDim_c b1 _ _ s1 t1 d _ l1 m1 (h1.ext (Xw1.trans qXt)) (k1.ext (Xw1.trans qXt)) (by omega)).mono ?_
    rintro e w2 ⟨rfl, xw2⟩
    have Lw2 : Ext w1 w2 := Ext.trans qXt xw2
    have Xw2 : Ext w w2 := Xw1.trans Lw2
    replace va0 := Lw2.cell va0
    replace va1 := Lw2.cell va1
    replace va2 := Lw2.cell va2
    replace sl0 := Lw2.cell sl0
    replace sl1 := Lw2.cell sl1
    replace sl2 := Lw2.cell sl2
    replace sl3 := Lw2.cell sl3
    replace sl4 := Lw2.cell sl4
    replace q0 := Lw2.cell q0
    replace q1 := Lw2.cell q1
    replace q2 := Lw2.cell q2
    replace f_q0 := Lw2.frz z_q f_q0
    replace f_q1 := Lw2.frz z_q f_q1
    replace f_q2 := Lw2.frz z_q f_q2
    have z_va : w.heap.size < w2.heap.size := qB va0
    have z_sl : w.heap.size + 1 < w2.heap.size := qB sl0
    have z_q : w.heap.size + 1 + 1 < w2.heap.size := qB q0
    have s_w2 : w.heap.size ≤ w2.heap.size := Xw2.size
    clear xw2
    rw [hb.out]
    go_wp2_with fail
    refine (validSlice_c F T B hf ht _).mono ?_
    rintro e w3 ⟨rfl, xw3⟩
    have Lw3 : Ext w2 w3 := Ext.trans qXt xw3
    have Xw3 : Ext w w3 := Xw2.trans Lw3
    replace va0 := Lw3.cell va0
    replace va1 := Lw3.cell va1
    replace va2 := Lw3.cell va2
    replace sl0 := Lw3.cell sl0
    replace sl1 := Lw3.cell sl1
    replace sl2 := Lw3.cell sl2
    replace sl3 := Lw3.cell sl3
    replace sl4 := Lw3.cell sl4
    replace q0 := Lw3.cell q0
    replace q1 := Lw3.cell q1
    replace q2 := Lw3.cell q2
    replace f_q0 := Lw3.frz z_q f_q0
    replace f_q1 := Lw3.frz z_q f_q1
    replace f_q2 := Lw3.frz z_q f_q2
    have z_va : w.heap.size < w3.heap.size := qB va0
    have z_sl : w.heap.size + 1 < w3.heap.size := qB sl0
    have z_q : w.heap.size + 1 + 1 < w3.heap.size := qB q0
    have s_w3 : w.heap.size ≤ w3.heap.size := Xw3.size
    clear xw3
    rw [hc.out]
    go_wp2_with fail
    refine bodyPost_ret (v := .tuple #[.agg #[.int .i64 0, .slice none 0 0, .slice none 0 0], .bool false]) (by simp only [results, Try.results104]; go_simp) rfl ?_
    exact PVB.no hr.out qXt
   ·
    have hd : 0 ≤ d ∧ d < s1.length := by simp [inB] at hb; omega
    obtain ⟨L, hL⟩ : ∃ L, Hid (idxS (s1.getD d.toNat 0) F T B hf ht = L) := ⟨_, Lib.hid rfl⟩
    have hv := sliceV_view ha hd hc
    have hr := sliceV_yes ha hb hc hL.out
    rw [hL.out] at hv
    have hcut : ∀ W, Ext w W → Calls Try.prog 150 #[.agg #[.int .i64 b1, .slice a1 s1.length cp1, .slice a2 t1.length cp2], .int .i64 (d.toNat : Int), .agg #[.int .i64 F, .int .i64 T, .int .i64 B, .bool hf, .bool ht]] W (PView W (cutB b1 s1 t1 d.toNat L) (cutS s1 d.toNat L) (cutT s1 t1 d.toNat L)) :=
     fun W hW => cutDim_c b1 _ _ s1 t1 d.toNat F T B hf ht L W l1 m1 (h1.ext hW) (k1.ext hW) ha (by omega) hc hL.out
    rw [Int.toNat_of_nonneg hd.1] at hcut
    replace hv := Lib.hid hv
    generalize cutB b1 s1 t1 d.toNat L = cb at *
    generalize cutS s1 d.toNat L = cs at *
    generalize cutT s1 t1 d.toNat L = ct at *
    replace hcut := Lib.hid hcut
    replace hr := Lib.hid hr
    replace ha := Lib.hid ha
    replace hb := Lib.hid hb
    replace hc := Lib.hid hc
    go_enter Try.func104, Try.ntmps104
    go_wp2_with fail
    refine (validView_c b1 _ _ s1 t1 _ l1 m1 (h1.ext qXt) (k1.ext qXt)).mono ?_
    rintro e w1 ⟨rfl, xw1⟩
    have Lw1 : Ext w w1 := Ext.trans qXt xw1
    have Xw1 : Ext w w1 := Lw1
    have va0 : w1.cell? ⟨w.heap.size, 0, none⟩ = some (.int .i64 b1) := xw1.cell qCl
    have va1 : w1.cell? ⟨w.heap.size, 1, none⟩ = some (.slice a1 s1.length cp1) := xw1.cell qCl
    have va2 : w1.cell? ⟨w.heap.size, 2, none⟩ = some (.slice a2 t1.length cp2) := xw1.cell qCl
    have sl0 : w1.cell? ⟨w.heap.size + 1, 0, none⟩ = some (.int .i64 F) := xw1.cell qCl
    have sl1 : w1.cell? ⟨w.heap.size + 1, 1, none⟩ = some (.int .i64 T) := xw1.cell qCl
    have sl2 : w1.cell? ⟨w.heap.size + 1, 2, none⟩ = some (.int .i64 B) := xw1.cell qCl
    have sl3 : w1.cell? ⟨w.heap.size + 1, 3, none⟩ = some (.bool hf) := xw1.cell qCl
    have sl4 : w1.cell? ⟨w.heap.size + 1, 4, none⟩ = some (.bool ht) := xw1.cell qCl
    have q0 : w1.cell? ⟨w.heap.size + 1 + 1, 0, none⟩ = some (.int .i64 0) := xw1.cell qCl
    have q1 : w1.cell? ⟨w.heap.size + 1 + 1, 1, none⟩ = some (.slice none 0 0) := xw1.cell qCl
    have q2 : w1.cell? ⟨w.heap.size + 1 + 1, 2, none⟩ = some (.slice none 0 0) := xw1.cell qCl
    have f_q0 : w1.frozen? ⟨w.heap.size + 1 + 1, 0, none⟩ = false := xw1.frz (by simp <;> omega) qFz
    have f_q1 : w1.frozen? ⟨w.heap.size + 1 + 1, 1, none⟩ = false := xw1.frz (by simp <;> omega) qFz
    have f_q2 : w1.frozen? ⟨w.heap.size + 1 + 1, 2, none⟩ = false := xw1.frz (by simp <;> omega) qFz
    have z_va : w.heap.size < w1.heap.size := qB va0
    have z_sl : w.heap.size + 1 < w1.heap.size := qB sl0
    have z_q : w.heap.size + 1 + 1 < w1.heap.size := qB q0
    have s_w1 : w.heap.size ≤ w1.heap.size := Xw1.size
    clear xw1
    rw [ha.out]
    go_wp2_with fail
    refine (isDim_c b1 _ _ s1 t1 d _ l1 m1 (h1.ext (Xw1.trans qXt)) (k1.ext (Xw1.trans qXt)) (by omega)).mono ?_
    rintro e w2 ⟨rfl, xw2⟩
    have Lw2 : Ext w1 w2 := Ext.trans qXt xw2
    have Xw2 : Ext w w2 := Xw1.trans Lw2
    replace va0 := Lw2.cell va0
    replace va1 := Lw2.cell va1
    replace va2 := Lw2.cell va2
    replace sl0 := Lw2.cell sl0
    replace sl1 := Lw2.cell sl1
    replace sl2 := Lw2.cell sl2
    replace sl3 := Lw2.cell sl3
    replace sl4 := Lw2.cell sl4
    replace q0 := Lw2.cell q0
    replace q1 := Lw2.cell q1
    replace q2 := Lw2.cell q2
    replace f_q0 := Lw2.frz z_q f_q0
    replace f_q1 := Lw2.frz z_q f_q1
    replace f_q2 := Lw2.frz z_q f_q2
    have z_va : w.heap.size < w2.heap.size := qB va0
    have z_sl : w.heap.size + 1 < w2.heap.size := qB sl0
    have z_q : w.heap.size + 1 + 1 < w2.heap.size := qB q0
    have s_w2 : w.heap.size ≤ w2.heap.size := Xw2.size
    clear xw2
    rw [hb.out]
    go_wp2_with fail
    refine (validSlice_c F T B hf ht _).mono ?_
    rintro e w3 ⟨rfl, xw3⟩
    have Lw3 : Ext w2 w3 := Ext.trans qXt xw3
    have Xw3 : Ext w w3 := Xw2.trans Lw3
    replace va0 := Lw3.cell va0
    replace va1 := Lw3.cell va1
    replace va2 := Lw3.cell va2
    replace sl0 := Lw3.cell sl0
    replace sl1 := Lw3.cell sl1
    replace sl2 := Lw3.cell sl2
    replace sl3 := Lw3.cell sl3
    replace sl4 := Lw3.cell sl4
    replace q0 := Lw3.cell q0
    replace q1 := Lw3.cell q1
    replace q2 := Lw3.cell q2
    replace f_q0 := Lw3.frz z_q f_q0
    replace f_q1 := Lw3.frz z_q f_q1
    replace f_q2 := Lw3.frz z_q f_q2
    have z_va : w.heap.size < w3.heap.size := qB va0
    have z_sl : w.heap.size + 1 < w3.heap.size := qB sl0
    have z_q : w.heap.size + 1 + 1 < w3.heap.size := qB q0
    have s_w3 : w.heap.size ≤ w3.heap.size := Xw3.size
    clear xw3
    rw [hc.out]
    go_wp2_with fail
    refine (hcut.out _ (Xw3.trans qXt)).mono ?_
    rintro e w4 ⟨x1, x2, rfl, i1, i2, -, -, -, xw4⟩
    have Lw4 : Ext w3 w4 := Ext.trans qXt xw4
    have Xw4 : Ext w w4 := Xw3.trans Lw4
    replace va0 := Lw4.cell va0
    replace va1 := Lw4.cell va1
    replace va2 := Lw4.cell va2
    replace sl0 := Lw4.cell sl0
    replace sl1 := Lw4.cell sl1
    replace sl2 := Lw4.cell sl2
    replace sl3 := Lw4.cell sl3
    replace sl4 := Lw4.cell sl4
    replace q0 := Lw4.cell q0
    replace q1 := Lw4.cell q1
    replace q2 := Lw4.cell q2
    replace f_q0 := Lw4.frz z_q f_q0
    replace f_q1 := Lw4.frz z_q f_q1
    replace f_q2 := Lw4.frz z_q f_q2
    have z_va : w.heap.size < w4.heap.size := qB va0
    have z_sl : w.heap.size + 1 < w4.heap.size := qB sl0
    have z_q : w.heap.size + 1 + 1 < w4.heap.size := qB q0
    have s_w4 : w.heap.size ≤ w4.heap.size := Xw4.size
    clear xw4
    go_wp2_with fail
    refine (made_1 _ _ _ _ _ _ _ _ (i1.ext qXt) (i2.ext qXt) hv.out).mono ?_
    rintro e w5 ⟨y1, y2, rfl, j1, j2, o1, o2, od, xw5⟩
    have Lw5 : Ext w4 w5 := Ext.trans qXt xw5
    have Xw5 : Ext w w5 := Xw4.trans Lw5
    replace va0 := Lw5.cell va0
    replace va1 := Lw5.cell va1
    replace va2 := Lw5.cell va2
    replace sl0 := Lw5.cell sl0
    replace sl1 := Lw5.cell sl1
    replace sl2 := Lw5.cell sl2
    replace sl3 := Lw5.cell sl3
    replace sl4 := Lw5.cell sl4
    replace q0 := Lw5.cell q0
    replace q1 := Lw5.cell q1
    replace q2 := Lw5.cell q2
    replace f_q0 := Lw5.frz z_q f_q0
    replace f_q1 := Lw5.frz z_q f_q1
    replace f_q2 := Lw5.frz z_q f_q2
    have z_va : w.heap.size < w5.heap.size := qB va0
    have z_sl : w.heap.size + 1 < w5.heap.size := qB sl0
    have z_q : w.heap.size + 1 + 1 < w5.heap.size := qB q0
    replace i1 := i1.ext Lw5
    replace i2 := i2.ext Lw5
    have s_w5 : w.heap.size ≤ w5.heap.size := Xw5.size
    clear xw5
    have hl1 := ints_len j1
    have hl2 := ints_len j2
    clear i1 i2
    obtain ⟨p1, n1, r1, rfl⟩ := o1.form
    obtain ⟨p2, n2, r2, rfl⟩ := o2.form
    go_wp2_with fail
    generalize hW1 : (((w5.setCell ⟨w.heap.size + 1 + 1, 0, none⟩ (.int .i64 cb)).setCell ⟨w.heap.size + 1 + 1, 1, none⟩ (.slice p1 n1 r1)).setCell ⟨w.heap.size + 1 + 1, 2, none⟩ (.slice p2 n2 r2)) = w6 at *
    have Kw6 : Chg (w.heap.size + 1 + 1) (w.heap.size + 1 + 1 + 1) w5 w6 := by subst hW1; exact qCh
    have Xw6 : Ext w w6 := by subst hW1; exact qXt
    replace va0 := Kw6.cell (by omega) va0
    replace va1 := Kw6.cell (by omega) va1
    replace va2 := Kw6.cell (by omega) va2
    replace sl0 := Kw6.cell (by omega) sl0
    replace sl1 := Kw6.cell (by omega) sl1
    replace sl2 := Kw6.cell (by omega) sl2
    replace sl3 := Kw6.cell (by omega) sl3
    replace sl4 := Kw6.cell (by omega) sl4
    replace q0 : w6.cell? ⟨w.heap.size + 1 + 1, 0, none⟩ = some (.int .i64 cb) := by subst hW1; go_simp
    replace f_q0 : w6.frozen? ⟨w.heap.size + 1 + 1, 0, none⟩ = false := by subst hW1; go_simp
    replace q1 : w6.cell? ⟨w.heap.size + 1 + 1, 1, none⟩ = some (.slice p1 n1 r1) := by subst hW1; go_simp
    replace f_q1 : w6.frozen? ⟨w.heap.size + 1 + 1, 1, none⟩ = false := by subst hW1; go_simp
    replace q2 : w6.cell? ⟨w.heap.size + 1 + 1, 2, none⟩ = some (.slice p2 n2 r2) := by subst hW1; go_simp
    replace f_q2 : w6.frozen? ⟨w.heap.size + 1 + 1, 2, none⟩ = false := by subst hW1; go_simp
    replace o1 := o1.chg Kw6 (by omega)
    replace o2 := o2.chg Kw6 (by omega)
    clear Kw6
    have z_va : w.heap.size < w6.heap.size := qB va0
    have z_sl : w.heap.size + 1 < w6.heap.size := qB sl0
    have z_q : w.heap.size + 1 + 1 < w6.heap.size := qB q0
    have s_w6 : w.heap.size ≤ w6.heap.size := Xw6.size
    clear hW1
    refine bodyPost_ret (v := .tuple #[.agg #[.int .i64 cb, .slice p1 n1 r1, .slice p2 n2 r2], .bool true]) (by simp only [results, Try.results104]; go_simp) rfl ?_
    clear hL hcut hv
    exact PVB.yes hr.out (o1.lower (by omega)) (o2.lower (by omega)) od hl1 hl2 Xw6

end Go.Proofs.Ytfbbnbpobojboaa

/- Walks: permuted of the reference. -/
namespace Go.Proofs.Ytfbbnbpobojboaa
open Go.RowKit
set_option linter.unusedVariables false
set_option maxRecDepth 100000

end Go.Proofs.Ytfbbnbpobojboaa

/- Walks: insert of the reference. -/
namespace Go.Proofs.Ytfbbnbpobojboaa
open Go.RowKit
set_option linter.unusedVariables false
set_option maxRecDepth 100000

end Go.Proofs.Ytfbbnbpobojboaa

/- Walks: made, PermuteDims, FlipDim, AddDim and WindowsOf of the reference. -/
namespace Go.Proofs.Ytfbbnbpobojboaa
open Go.RowKit
set_option linter.unusedVariables false
set_option maxRecDepth 100000


theorem PVB.any {w w' : World} {x : VBool} {b : Int} {s t : List Int} {ok : Bool} {v1 v2 : Value} (h : x = (b, s, t, ok)) (o1 : OwnZ w' w.heap.size v1 s) (o2 : OwnZ w' w.heap.size v2 t) (hd : s ≠ [] → t ≠ [] → v1.ownBlock ≠ v2.ownBlock) (l1 : s.length ≤ 4194304) (l2 : t.length ≤ 4194304) (hx : Ext w w') :
    PVB w x (.returned (.tuple #[.agg #[.int .i64 b, v1, v2], .bool ok])) w' := by
  subst h; exact ⟨v1, v2, rfl, o1.ints l1, o2.ints l2, o1, o2, hd, hx⟩
/-- the view of a VBool: as many strides as extents, no more than four -/
def VBool.fit (x : VBool) : Prop := x.2.2.1.length = x.2.1.length ∧ x.2.1.length ≤ 4
theorem noV_fit : VBool.fit noV := ⟨rfl, Nat.zero_le _⟩
theorem view_fit {b : Int} {s t : List Int} {ok : Bool} (h : viewB b s t = true) : VBool.fit (b, s, t, ok) := ⟨(viewB_in h).2.1, (shapeB_in (viewB_in h).1).1⟩
theorem sliceV_fit (b : Int) (s t : List Int) (d F T B : Int) (hf ht : Bool) : VBool.fit (sliceV b s t d F T B hf ht) := by
  unfold sliceV
  split
  · rename_i h
    simp only [Bool.and_eq_true] at h
    obtain ⟨h1, h2, h3⟩ := h
    exact view_fit (sliceV_view h1 (by simp [inB] at h2; omega) h3)
  · exact noV_fit

end Go.Proofs.Ytfbbnbpobojboaa

/- Words for walks: an owned row with one element more. No condition. -/
namespace Go.Proofs.Ytfbbnbpobojboaa
open Go.RowKit
set_option linter.unusedVariables false
set_option maxRecDepth 100000

end Go.Proofs.Ytfbbnbpobojboaa

/- Walks: WindowsOf of the reference. -/
namespace Go.Proofs.Ytfbbnbpobojboaa
open Go.RowKit
set_option linter.unusedVariables false
set_option maxRecDepth 100000

end Go.Proofs.Ytfbbnbpobojboaa

/- Walks: drawn ranges and slices. -/
namespace Go.Proofs.Ytfbbnbpobojboaa
open Go.RowKit
set_option linter.unusedVariables false
set_option maxRecDepth 100000

end Go.Proofs.Ytfbbnbpobojboaa

/- Walks: drawn slices. -/
namespace Go.Proofs.Ytfbbnbpobojboaa
open Go.RowKit
set_option linter.unusedVariables false
set_option maxRecDepth 100000

/-- a slice at a block -/
def SlAt (w : World) (g : Nat) : Prop := ∃ (F T B : Int) (hf ht : Bool), w.cell? ⟨g, 0, none⟩ = some (.int .i64 F) ∧ w.cell? ⟨g, 1, none⟩ = some (.int .i64 T) ∧ w.cell? ⟨g, 2, none⟩ = some (.int .i64 B) ∧ w.cell? ⟨g, 3, none⟩ = some (.bool hf) ∧ w.cell? ⟨g, 4, none⟩ = some (.bool ht) ∧
  w.frozen? ⟨g, 0, none⟩ = false ∧ w.frozen? ⟨g, 1, none⟩ = false ∧ w.frozen? ⟨g, 2, none⟩ = false ∧ w.frozen? ⟨g, 3, none⟩ = false ∧ w.frozen? ⟨g, 4, none⟩ = false
theorem SlAt.lt {w : World} {g : Nat} (h : SlAt w g) : g < w.heap.size := by obtain ⟨F, T, B, hf, ht, h, _⟩ := h; exact qB h

end Go.Proofs.Ytfbbnbpobojboaa

/- Walks: drawn shapes. -/
namespace Go.Proofs.Ytfbbnbpobojboaa
open Go.RowKit
set_option linter.unusedVariables false
set_option maxRecDepth 100000

theorem Below.chg {B : Nat} {a b : World} (h : Below B a b) : Chg B a.heap.size a b :=
  ⟨h.os, h.tape, h.output, h.size, fun k hk hd => by
    rcases hd with hd | hd
    · exact h.block k hd
    · omega⟩
theorem Rd.below {B : Nat} {a b : World} {rb k : Nat} (h : Rd a rb k) (hb : Below B a b) (hl : rb < B) : Rd b rb k := h.chgO (Below.chg hb) hl
theorem Rch.below {rb : Nat} {w a b : World} (h : Chg rb (rb + 1) w a) (hb : Below w.heap.size a b) : Chg rb (rb + 1) w b :=
  ⟨hb.os.trans h.os, hb.tape.trans h.tape, hb.output.trans h.output, Nat.le_trans h.size hb.size, fun k hk hd => (hb.block k hk).trans (h.block k hk hd)⟩

end Go.Proofs.Ytfbbnbpobojboaa

/- Words for drawn views: a view in a block, with rows of its own. No condition. -/
namespace Go.Proofs.Ytfbbnbpobojboaa
open Go.RowKit
set_option linter.unusedVariables false
set_option maxRecDepth 100000

/-- a view lies in block g; its rows are the call's own, from block B on, not g -/
structure VAt (B g : Nat) (w : World) (b : Int) (u v : Value) (s t : List Int) : Prop where
  c0 : w.cell? ⟨g, 0, none⟩ = some (.int .i64 b)
  c1 : w.cell? ⟨g, 1, none⟩ = some u
  c2 : w.cell? ⟨g, 2, none⟩ = some v
  f0 : w.frozen? ⟨g, 0, none⟩ = false
  f1 : w.frozen? ⟨g, 1, none⟩ = false
  f2 : w.frozen? ⟨g, 2, none⟩ = false
  o1 : OwnZ w B u s
  o2 : OwnZ w B v t
  sep : s ≠ [] → t ≠ [] → u.ownBlock ≠ v.ownBlock
  n1 : s ≠ [] → u.ownBlock ≠ some g
  n2 : t ≠ [] → v.ownBlock ≠ some g
  fit : t.length = s.length
  le : s.length ≤ 4
section
variable {B g rb lo hi : Nat} {w w' : World} {b : Int} {u v : Value} {s t : List Int}
theorem VAt.lt (h : VAt B g w b u v s t) : g < w.heap.size := qB h.c0
theorem VAt.ext (h : VAt B g w b u v s t) (x : Ext w w') : VAt B g w' b u v s t :=
  ⟨x.cell h.c0, x.cell h.c1, x.cell h.c2, x.frz h.lt h.f0, x.frz h.lt h.f1, x.frz h.lt h.f2, h.o1.ext x, h.o2.ext x, h.sep, h.n1, h.n2, h.fit, h.le⟩
/-- another block has turned, behind the rows and the view -/
theorem VAt.chgB (h : VAt B g w b u v s t) (k : Chg lo hi w w') (hg : g < lo) (h1 : s ≠ [] → ∀ q, u.ownBlock = some q → q < lo) (h2 : t ≠ [] → ∀ q, v.ownBlock = some q → q < lo) : VAt B g w' b u v s t :=
  ⟨k.cell (by omega) h.c0, k.cell (by omega) h.c1, k.cell (by omega) h.c2, k.frzO (by omega) h.lt h.f0, k.frzO (by omega) h.lt h.f1, k.frzO (by omega) h.lt h.f2, h.o1.chgB k h1, h.o2.chgB k h2, h.sep, h.n1, h.n2, h.fit, h.le⟩
/-- another block has turned, ahead of the rows, not the view's -/
theorem VAt.chg (h : VAt B g w b u v s t) (k : Chg lo hi w w') (hg : g < lo ∨ hi ≤ g) (hb : hi ≤ B) : VAt B g w' b u v s t :=
  ⟨k.cell hg h.c0, k.cell hg h.c1, k.cell hg h.c2, k.frzO hg h.lt h.f0, k.frzO hg h.lt h.f1, k.frzO hg h.lt h.f2, h.o1.chg k hb, h.o2.chg k hb, h.sep, h.n1, h.n2, h.fit, h.le⟩
theorem VAt.lower (h : VAt B g w b u v s t) {B' : Nat} (hb : B' ≤ B) : VAt B' g w b u v s t := ⟨h.c0, h.c1, h.c2, h.f0, h.f1, h.f2, h.o1.lower hb, h.o2.lower hb, h.sep, h.n1, h.n2, h.fit, h.le⟩
theorem VAt.new (b : Int) (o1 : OwnZ w B u s) (o2 : OwnZ w B v t) (hs : s ≠ [] → t ≠ [] → u.ownBlock ≠ v.ownBlock) (hf : t.length = s.length) (hl : s.length ≤ 4) : VAt B w.heap.size (w.alloc (.cells #[.int .i64 b, u, v] 36)) b u v s t :=
  ⟨by simp, by simp, by simp, by simp, by simp, by simp, o1.ext ((Ext.refl w).alloc _), o2.ext ((Ext.refl w).alloc _), hs, (fun h e => by have := o1.bound h _ e; omega), (fun h e => by have := o2.bound h _ e; omega), hf, hl⟩
end
/-- a view is stored into a block that lies ahead of its rows -/
theorem VAt.put {B g : Nat} {w : World} {b b0 : Int} {u v u0 v0 : Value} {s t : List Int} (c0 : w.cell? ⟨g, 0, none⟩ = some (.int .i64 b0)) (c1 : w.cell? ⟨g, 1, none⟩ = some u0) (c2 : w.cell? ⟨g, 2, none⟩ = some v0)
    (f0 : w.frozen? ⟨g, 0, none⟩ = false) (f1 : w.frozen? ⟨g, 1, none⟩ = false) (f2 : w.frozen? ⟨g, 2, none⟩ = false) (o1 : OwnZ w B u s) (o2 : OwnZ w B v t) (hs : s ≠ [] → t ≠ [] → u.ownBlock ≠ v.ownBlock) (hf : t.length = s.length) (hl : s.length ≤ 4) (hg : g < B) :
    VAt B g (((w.setCell ⟨g, 0, none⟩ (.int .i64 b)).setCell ⟨g, 1, none⟩ u).setCell ⟨g, 2, none⟩ v) b u v s t := by
  have k := Chg.three (lo := g) w (.int .i64 b) u v
  have m1 : s ≠ [] → u.ownBlock ≠ some g := fun h e => by obtain ⟨q, e2, h2, _⟩ := o1.lt h; rw [e2] at e; cases e; omega
  have m2 : t ≠ [] → v.ownBlock ≠ some g := fun h e => by obtain ⟨q, e2, h2, _⟩ := o2.lt h; rw [e2] at e; cases e; omega
  exact ⟨by go_simp, by go_simp, by go_simp, by go_simp, by go_simp, by go_simp, o1.chg k (by omega), o2.chg k (by omega), hs, m1, m2, hf, hl⟩

/-- a view that is told to be one has a dimension -/
def VBool.live (x : VBool) : Prop := x.2.2.2 = true → x.2.1 ≠ []
/-- a call hands back a view with a bool: as many strides as extents, no more than four -/
def PFit (w : World) (e : Ending) (w' : World) : Prop :=
  ∃ (b : Int) (s t : List Int) (ok : Bool) (p1 p2 : Option Addr) (n1 r1 n2 r2 : Nat), e = .returned (.tuple #[.agg #[.int .i64 b, .slice p1 n1 r1, .slice p2 n2 r2], .bool ok]) ∧ OwnZ w' w.heap.size (.slice p1 n1 r1) s ∧ OwnZ w' w.heap.size (.slice p2 n2 r2) t ∧
    (s ≠ [] → t ≠ [] → (Value.slice p1 n1 r1).ownBlock ≠ (Value.slice p2 n2 r2).ownBlock) ∧ t.length = s.length ∧ (s.length ≤ 4 ∧ (ok = true → s ≠ [])) ∧ Ext w w'
theorem PFit.of {w w' : World} {e : Ending} {x : VBool} (h : PVB w x e w') (hf : x.fit) (hv : x.live) : PFit w e w' := by
  obtain ⟨b, s, t, ok⟩ := x
  obtain ⟨sh, st, rfl, -, -, o1, o2, od, xx⟩ := h
  obtain ⟨p1, n1, r1, rfl⟩ := o1.form
  obtain ⟨p2, n2, r2, rfl⟩ := o2.form
  exact ⟨b, s, t, ok, p1, p2, n1, r1, n2, r2, rfl, o1, o2, od, hf.1, ⟨hf.2, hv⟩, xx⟩
/-- the state behind the choice of the next view -/
def NextAt (rb q gn gv : Nat) (w : World) (b : Int) (u v : Value) (s t : List Int) (ok : Value) (wx : World) : Prop :=
  ∃ (o : Bool) (b' : Int) (s' t' : List Int) (p1 p2 : Option Addr) (m1 r1 m2 r2 : Nat), ok = .bool o ∧ (o = true → s' ≠ []) ∧ VAt (gn + 1) gn wx b' (.slice p1 m1 r1) (.slice p2 m2 r2) s' t' ∧ VAt (w.heap.size + 1) gv wx b u v s t ∧
    VAt (w.heap.size + 1) w.heap.size wx 0 (.slice none 0 0) (.slice none 0 0) [] [] ∧ Rd wx rb (q + 20) ∧ Rch rb w wx
theorem NextAt.put {rb q gn gv B0 B m1 r1 m2 r2 : Nat} {w w12 : World} {b bn b' : Int} {u v un vn : Value} {p1 p2 : Option Addr} {s t sn tn s' t' : List Int} (o : Bool) (VN : VAt B0 gn w12 bn un vn sn tn) (V : VAt (w.heap.size + 1) gv w12 b u v s t)
    (Q : VAt (w.heap.size + 1) w.heap.size w12 0 (.slice none 0 0) (.slice none 0 0) [] []) (hr : Rd w12 rb (q + 20)) (X : Rch rb w w12) (h1 : rb < w.heap.size) (h2 : w.heap.size < gv) (h3 : gv < gn)
    (hb1 : s ≠ [] → ∀ g, u.ownBlock = some g → g < gn) (hb2 : t ≠ [] → ∀ g, v.ownBlock = some g → g < gn) (o1 : OwnZ w12 B (.slice p1 m1 r1) s') (o2 : OwnZ w12 B (.slice p2 m2 r2) t') (hs : s' ≠ [] → t' ≠ [] → (Value.slice p1 m1 r1).ownBlock ≠ (Value.slice p2 m2 r2).ownBlock) (hf : t'.length = s'.length) (hl : s'.length ≤ 4 ∧ (o = true → s' ≠ [])) (hB : gn < B) :
    NextAt rb q gn gv w b u v s t (.bool o) (((w12.setCell ⟨gn, 0, none⟩ (.int .i64 b')).setCell ⟨gn, 1, none⟩ (.slice p1 m1 r1)).setCell ⟨gn, 2, none⟩ (.slice p2 m2 r2)) :=
  ⟨o, b', s', t', p1, p2, m1, r1, m2, r2, rfl, hl.2, VAt.put VN.c0 VN.c1 VN.c2 VN.f0 VN.f1 VN.f2 (o1.lower hB) (o2.lower hB) hs hf hl.1 (Nat.lt_succ_self _), V.chgB (Chg.three w12 _ _ _) h3 hb1 hb2,
    Q.chgB (Chg.three w12 _ _ _) (by omega) (fun h => absurd rfl h) (fun h => absurd rfl h),
    Rd.set2 (show rb < gn by omega) (Rd.set2 (show rb < gn by omega) (Rd.set2 (show rb < gn by omega) hr)),
    ((X.set (show w.heap.size ≤ gn by omega) _).set (show w.heap.size ≤ gn by omega) _).set (show w.heap.size ≤ gn by omega) _⟩

end Go.Proofs.Ytfbbnbpobojboaa

/- Walks: ValidView, FitsIn, BoundsOf. -/
namespace Go.Proofs.Ytfbbnbpobojboaa
open Go.RowKit
set_option linter.unusedVariables false
set_option maxRecDepth 100000


end Go.Proofs.Ytfbbnbpobojboaa

/- Words for memory: slices of exports that read as lists. No condition. -/
namespace Go.Proofs.Ytfbbnbpobojboaa
open Go.RowKit
set_option linter.unusedVariables false
set_option maxRecDepth 100000

/-- an export: its parent, the base, the shape and the strides of its view, and whether it is open -/
structure Exp where
  par : Int
  b : Int
  s : List Int
  t : List Int
  op : Bool
def noE : Exp := ⟨0, 0, [], [], false⟩
/-- the export number i -/
def expAt (es : List Exp) (i : Nat) : Exp := es.getD i noE
theorem expAt_get {es : List Exp} {i : Nat} (h : i < es.length) : expAt es i = es[i] := by unfold expAt; simp [h]

/-- the slice value v reads as the exports es; its cells, and those of their views, lie in blocks from lo on -/
def Exps (w : World) (lo : Nat) (v : Value) (es : List Exp) : Prop :=
  ∃ a cap, v = .slice a es.length cap ∧ es.length ≤ cap ∧ cap ≤ maxLen ∧ (es.length ≤ 1048576 ∧ (a = none → cap = 0)) ∧
    ∀ i, i < es.length → ∃ bl off u1 c1 u2 c2, a = some ⟨bl, off, none⟩ ∧ lo ≤ bl ∧
      w.cell? ⟨bl, off + i * 5, none⟩ = some (.int .i64 (expAt es i).par) ∧ w.cell? ⟨bl, off + i * 5 + 1, none⟩ = some (.int .i64 (expAt es i).b) ∧
      w.cell? ⟨bl, off + i * 5 + 2, none⟩ = some (.slice u1 (expAt es i).s.length c1) ∧ w.cell? ⟨bl, off + i * 5 + 3, none⟩ = some (.slice u2 (expAt es i).t.length c2) ∧
      w.cell? ⟨bl, off + i * 5 + 4, none⟩ = some (.bool (expAt es i).op) ∧ Ints w lo (.slice u1 (expAt es i).s.length c1) (expAt es i).s ∧ Ints w lo (.slice u2 (expAt es i).t.length c2) (expAt es i).t
section
variable {w w' : World} {lo lo' : Nat} {v : Value} {es : List Exp}
theorem Exps.ext (h : Exps w lo v es) (hx : Ext w w') : Exps w' lo v es := by
  obtain ⟨a, cap, hv, h1, h2, h3, h4⟩ := h
  refine ⟨a, cap, hv, h1, h2, h3, fun i hi => ?_⟩
  obtain ⟨bl, off, u1, c1, u2, c2, ha, hl, k0, k1, k2, k3, k4, i1, i2⟩ := h4 i hi
  exact ⟨bl, off, u1, c1, u2, c2, ha, hl, hx.cell k0, hx.cell k1, hx.cell k2, hx.cell k3, hx.cell k4, i1.ext hx, i2.ext hx⟩
theorem Exps.lower (h : Exps w lo v es) (hl : lo' ≤ lo) : Exps w lo' v es := by
  obtain ⟨a, cap, hv, h1, h2, h3, h4⟩ := h
  refine ⟨a, cap, hv, h1, h2, h3, fun i hi => ?_⟩
  obtain ⟨bl, off, u1, c1, u2, c2, ha, hb, k0, k1, k2, k3, k4, i1, i2⟩ := h4 i hi
  exact ⟨bl, off, u1, c1, u2, c2, ha, by omega, k0, k1, k2, k3, k4, i1.lower hl, i2.lower hl⟩
theorem Exps.chg {l h' : Nat} (h : Exps w lo v es) (k : Chg l h' w w') (hb : h' ≤ lo) : Exps w' lo v es := by
  obtain ⟨a, cap, hv, h1, h2, h3, h4⟩ := h
  refine ⟨a, cap, hv, h1, h2, h3, fun i hi => ?_⟩
  obtain ⟨bl, off, u1, c1, u2, c2, ha, hb', k0, k1, k2, k3, k4, i1, i2⟩ := h4 i hi
  exact ⟨bl, off, u1, c1, u2, c2, ha, hb', k.cell (.inr (by omega)) k0, k.cell (.inr (by omega)) k1, k.cell (.inr (by omega)) k2, k.cell (.inr (by omega)) k3, k.cell (.inr (by omega)) k4, i1.chg k hb, i2.chg k hb⟩
theorem Exps.form (h : Exps w lo v es) : ∃ a c, v = .slice a es.length c := by obtain ⟨a, cap, rfl, _⟩ := h; exact ⟨_, _, rfl⟩
theorem Exps.len (h : Exps w lo v es) : es.length ≤ 1048576 := by obtain ⟨_, _, _, _, _, ⟨h, _⟩, _⟩ := h; exact h
theorem Exps.nil (w : World) (lo : Nat) : Exps w lo (.slice none 0 0) [] := ⟨none, 0, rfl, by simp, by simp, ⟨by simp, fun _ => rfl⟩, fun i hi => absurd hi (by simp)⟩
/-- the cells of one export -/
theorem Exps.at {a : Option Addr} {n c : Nat} (h : Exps w lo (.slice a n c) es) (i : Nat) (hi : i < es.length) : ∃ bl off u1 c1 u2 c2, a = some ⟨bl, off, none⟩ ∧
      w.cell? ⟨bl, off + i * 5, none⟩ = some (.int .i64 (expAt es i).par) ∧ w.cell? ⟨bl, off + i * 5 + 1, none⟩ = some (.int .i64 (expAt es i).b) ∧
      w.cell? ⟨bl, off + i * 5 + 2, none⟩ = some (.slice u1 (expAt es i).s.length c1) ∧ w.cell? ⟨bl, off + i * 5 + 3, none⟩ = some (.slice u2 (expAt es i).t.length c2) ∧
      w.cell? ⟨bl, off + i * 5 + 4, none⟩ = some (.bool (expAt es i).op) ∧ Ints w lo (.slice u1 (expAt es i).s.length c1) (expAt es i).s ∧ Ints w lo (.slice u2 (expAt es i).t.length c2) (expAt es i).t := by
  obtain ⟨a', cap, hv, h1, h2, h3, h4⟩ := h
  cases hv
  obtain ⟨bl, off, u1, c1, u2, c2, ha, hb, k⟩ := h4 i hi
  exact ⟨bl, off, u1, c1, u2, c2, ha, k⟩
end
/-- is the export number i valid? -/
def expB (cells : List Int) (es : List Exp) (i : Nat) : Bool :=
  (inB (-1) ((i : Int) - 1) (expAt es i).par && viewB (expAt es i).b (expAt es i).s (expAt es i).t) &&
    (!(expAt es i).op || (fitB (expAt es i).b (expAt es i).s (expAt es i).t cells.length && (decide ((expAt es i).par < 0) || (expAt es (expAt es i).par.toNat).op)))
/-- are the first k exports valid? -/
def expsB (cells : List Int) (es : List Exp) (k : Nat) : Bool := (List.range k).all fun i => expB cells es i
theorem expsB_succ (cells : List Int) (es : List Exp) (k : Nat) : expsB cells es (k+1) = (expsB cells es k && expB cells es k) := by unfold expsB; rw [List.range_succ, List.all_append]; simp
theorem expsB_no {cells : List Int} {es : List Exp} {k n : Nat} (h : k < n) (hk : expB cells es k = false) : expsB cells es n = false := by
  unfold expsB
  rw [Bool.eq_false_iff]
  intro h2
  rw [List.all_eq_true] at h2
  have := h2 k (List.mem_range.2 h)
  rw [hk] at this; cases this
/-- is a buffer valid? -/
def bufB (cells : List Int) (es : List Exp) : Bool := (memB cells && decide (es.length ≤ 8)) && expsB cells es es.length
end Go.Proofs.Ytfbbnbpobojboaa

/- Helpers of walks: capacities, two rows that grow. -/
namespace Go.Proofs.Ytfbbnbpobojboaa
open Go.RowKit
set_option linter.unusedVariables false

theorem PViewB.two {w w' : World} {B : Nat} {b : Int} {s t : List Int} {v1 v2 : Value} (T : Two B w' v1 v2 s t) (hB : w.heap.size ≤ B) (hs : s.length ≤ 1000) (ht : t.length ≤ 1000) (hx : Ext w w') :
    PViewB w b s t true (.returned (.tuple #[.agg #[.int .i64 b, v1, v2], .bool true])) w' :=
  ⟨_, _, rfl, (T.o1.ints (by omega)).lower hB, (T.o2.ints (by omega)).lower hB, (T.o1.lower hB).z, (T.o2.lower hB).z,
    (fun n1 n2 h => by obtain ⟨g, _, h1, _⟩ := (T.o1).row n1; rw [h1] at h; exact T.sep g (by rw [h1]; rfl) (h ▸ rfl)), hx⟩
theorem pi_eq {w w0 : World} {xs ys : List Int} {f : Nat} {args : Array Value} (he : xs = ys) (h : Calls Try.prog f args w (PInts w0 xs)) : Calls Try.prog f args w (PInts w0 ys) := he ▸ h
theorem pv_eq {w w0 : World} {x : VBool} {B : Int} {S T : List Int} {o : Bool} {f : Nat} {args : Array Value} (he : x = (B, S, T, o)) (h : Calls Try.prog f args w (PVB w0 x)) : Calls Try.prog f args w (PViewB w0 B S T o) := by subst he; exact h
end Go.Proofs.Ytfbbnbpobojboaa

/- Helpers of walks: appends to a literal without room, whatever is appended. -/
namespace Go.Proofs.Ytfbbnbpobojboaa
open Go.RowKit
set_option linter.unusedVariables false
section
variable {w : World} {src : Value} {ys : List Int} {lo B l : Nat}
theorem run_app0O (ty : TypeId) (O : OwnI w B (.slice (some ⟨l, 0, none⟩) 0 0) []) (hB : B ≤ w.heap.size) (hs : Ints w lo src ys) :
    ∃ g r w', (Builtin.append_ #[22, 22] ty #[.slice (some ⟨l, 0, none⟩) 0 0, src]).run Try.prog w = .ok (.slice (some ⟨g, 0, none⟩) ys.length r) w' ∧ OwnI w' B (.slice (some ⟨g, 0, none⟩) ys.length r) ys ∧ Ext w w' ∧ (g = l ∨ w.heap.size ≤ g) ∧ g < w'.heap.size := by
  obtain ⟨v', w', hr, h1, h2, h3⟩ := run_app0 ⟨l, 0, none⟩ ty hs
  by_cases he : ys = []
  · subst he
    have hs' := hs
    obtain ⟨i0, hi, hz0, hz1, hz2⟩ := info_parts infoInt
    obtain ⟨a, cap, rfl, h1, h2, ⟨h3', h3⟩, h4⟩ := hs
    refine ⟨l, 0, w, ?_, O, Ext.refl _, .inl rfl, (own_lt O rfl).2⟩
    cases a with
    | none => simp [Builtin.append_, run_underlying Try.underlying22, sizeOf, typeInfo, hi, Builtin.lenOf, Builtin.firstCells, storeCells]
    | some x => simp [Builtin.append_, run_underlying Try.underlying22, sizeOf, typeInfo, hi, Builtin.lenOf, Builtin.firstCells, storeCells, loadCells, loadCellsFrom]
  · have O' := (h1.ofNe he)
    obtain ⟨g, r, rfl, hg, hg'⟩ := O'.row he
    exact ⟨g, r, w', hr, O'.lower hB, h2, .inr hg, hg'⟩

theorem step_app0O {ops : Array Oper} {o : Oper} {a : Act} {K : Act → World → Prop} {Q : Exit → Act → World → Prop} {F : Prop} (hgd : o.guard = none) (s x : Operand)
    (ho : o.op = .call { callee := .builtin .append, args := #[s, x], argTypes := #[22, 22] })
    (hs : a.eval s = .slice (some ⟨l, 0, none⟩) 0 0) (hx : a.eval x = src) (O : OwnI w B (.slice (some ⟨l, 0, none⟩) 0 0) []) (hB : B ≤ w.heap.size) (hsrc : Ints w lo src ys)
    (hK : ∀ g r w', OwnI w' B (.slice (some ⟨g, 0, none⟩) ys.length r) ys → Ext w w' → (g = l ∨ w.heap.size ≤ g) → g < w'.heap.size → K (a.put o.dst (.slice (some ⟨g, 0, none⟩) ys.length r)) w') :
    if Region.wanted o (yielded ops a.tmps) = true then Oper.wp Try.prog o a w K Q else F := by
  have hw : Region.wanted o (yielded ops a.tmps) = true := by simp [Region.wanted, hgd]
  rw [if_pos hw]
  obtain ⟨g, r, w', hr, h1, h2, h3, h4⟩ := run_app0O o.type O hB hsrc
  unfold Oper.wp execOp
  simp only [ho, resolve, invoke, builtin, Sem.run_bind, Sem.run_pure, Result.andThen_ok, List.map_toArray, List.map_cons, List.map_nil, hs, hx, hr]
  exact hK g r w' h1 h2 h3 h4
theorem wpList_app0O {ops : Array Oper} {rest : List Oper} {o : Oper} {a : Act} {Q : Exit → Act → World → Prop} (hgd : o.guard = none) (s x : Operand)
    (ho : o.op = .call { callee := .builtin .append, args := #[s, x], argTypes := #[22, 22] })
    (hs : a.eval s = .slice (some ⟨l, 0, none⟩) 0 0) (hx : a.eval x = src) (O : OwnI w B (.slice (some ⟨l, 0, none⟩) 0 0) []) (hB : B ≤ w.heap.size) (hsrc : Ints w lo src ys)
    (hK : ∀ g r w', OwnI w' B (.slice (some ⟨g, 0, none⟩) ys.length r) ys → Ext w w' → (g = l ∨ w.heap.size ≤ g) → g < w'.heap.size → wpList Try.prog ops Q rest (a.put o.dst (.slice (some ⟨g, 0, none⟩) ys.length r)) w') : wpList Try.prog ops Q (o :: rest) a w := by
  refine wpList_plain hgd fun K hK' => ?_
  obtain ⟨g, r, w', hr, h1, h2, h3, h4⟩ := run_app0O o.type O hB hsrc
  unfold Oper.wp execOp
  simp only [ho, resolve, invoke, builtin, Sem.run_bind, Sem.run_pure, Result.andThen_ok, List.map_toArray, List.map_cons, List.map_nil, hs, hx, hr]
  exact hK' _ _ (hK g r w' h1 h2 h3 h4)
end
/-- a call hands back a row of its own -/
def PIntsO (w : World) (xs : List Int) (e : Ending) (w' : World) : Prop := ∃ g r, e = .returned (.slice (some ⟨g, 0, none⟩) xs.length r) ∧ OwnI w' w.heap.size (.slice (some ⟨g, 0, none⟩) xs.length r) xs ∧ w.heap.size ≤ g ∧ g < w'.heap.size ∧ Ext w w'
end Go.Proofs.Ytfbbnbpobojboaa
