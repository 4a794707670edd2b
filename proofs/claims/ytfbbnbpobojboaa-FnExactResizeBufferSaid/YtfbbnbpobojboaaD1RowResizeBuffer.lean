/- Texts of these proofs put together: Rec, Shelf, PureA, Lib, ViewD, ViewE, ViewF, PureB, ViewG, PureC, PureV, Lp, ExI, MemA, ExJ, ExD, ExG, RngA, ExK, ExL, ExM, SvA, SvB, SvC, PureW, PureX, PureY, RngB, RngC, SlA, PureZ, Rg, GenA, RgL, Kit, SvE, SvF, SvG, SvD, SvH, KitB, SvI, GenB, GenC, GenD, SvJ, LvA, BufA, KitC, KitD, KitF, BufO, BufP, OpenE, BufB, BufC, BufD, LvB, LvF, LvE, LvH, LvG, PureM, LvI, LvJ, BufE, KitE, KitG. No condition. -/
import Derived.Test.YtfbbnbpobojboaaM1
import Derived.Shelf.Small.Bits
import Derived.Shelf.Strconv.Itoa0
import Derived.Shelf.Sort.Plain
import Derived.Shelf.Slices.Turned
import Derived.Shelf.Slices.Reverse
import Derived.Shelf.Slices.Equal
import Derived.Ground.Names2Prog
import Derived.Shelf.Slices.CompactI
import Derived.Shelf.Slices.SearchI
import Derived.Shelf.Slices.Cells
import Derived.Shelf.Slices.In.SortNone
import Derived.Shelf.Slices.Empties2
import Derived.Test.YtfbbnbpobojboaaProg
import Derived.Lib.SlicesCompact
import Derived.Sort.OwnSortedInts
import Derived.StillTail
import Derived.Deep.DeepCutAuto
import Derived.Deep.CutBlock
import Derived.Deep.RegionHeld3
import Derived.WalkKit
import Derived.StillTailTactics
import Derived.Deep.Slices
import Derived.Deep.Strs
set_option linter.unusedVariables false
set_option linter.unusedSimpArgs false
/- Words for memory: slices whose elements take several cells. No condition. -/
namespace Go.Proofs.Ytfbbnbpobojboaa
open Go.RowKit

theorem flat_len {sz : Nat} : ∀ {L : List (List Value)}, (∀ c ∈ L, c.length = sz) → L.flatten.length = L.length * sz
  | [], _ => by simp
  | c :: L, h => by
    rw [List.flatten_cons, List.length_append, flat_len (fun c hc => h c (List.mem_cons_of_mem _ hc)), h c (List.mem_cons_self ..), List.length_cons, Nat.add_mul]
    omega
theorem flat_get {sz : Nat} : ∀ {L : List (List Value)}, (∀ c ∈ L, c.length = sz) → ∀ (i j : Nat) (hi : i < L.length) (hj : j < sz), L.flatten[i * sz + j]? = (L[i])[j]?
  | [], _, i, j, hi, _ => absurd hi (by simp)
  | c :: L, h, 0, j, _, hj => by
    have hc := h c (List.mem_cons_self ..)
    simp only [List.flatten_cons, Nat.zero_mul, Nat.zero_add, List.getElem_cons_zero]
    rw [List.getElem?_append_left (by omega)]
  | c :: L, h, i+1, j, hi, hj => by
    have hc := h c (List.mem_cons_self ..)
    have hi' : i < L.length := by simpa using hi
    have e : (i + 1) * sz + j = c.length + (i * sz + j) := by rw [Nat.add_mul, hc]; omega
    rw [List.flatten_cons, e, List.getElem?_append_right (by omega), Nat.add_sub_cancel_left, flat_get (fun c hc => h c (List.mem_cons_of_mem _ hc)) i j hi' hj]
    simp
theorem flat_set {sz : Nat} : ∀ {L : List (List Value)}, (∀ c ∈ L, c.length = sz) → ∀ (i j : Nat) (hi : i < L.length) (hj : j < sz) (x : Value), L.flatten.set (i * sz + j) x = (L.set i ((L[i]).set j x)).flatten
  | [], _, i, j, hi, _, _ => absurd hi (by simp)
  | c :: L, h, 0, j, _, hj, x => by
    have hc := h c (List.mem_cons_self ..)
    simp only [List.flatten_cons, Nat.zero_mul, Nat.zero_add, List.set_cons_zero, List.getElem_cons_zero]
    rw [List.set_append_left _ _ (by omega)]
  | c :: L, h, i+1, j, hi, hj, x => by
    have hc := h c (List.mem_cons_self ..)
    have hi' : i < L.length := by simpa using hi
    have e : (i + 1) * sz + j = c.length + (i * sz + j) := by rw [Nat.add_mul, hc]; omega
    rw [List.flatten_cons, e, List.set_append_right _ _ (by omega), Nat.add_sub_cancel_left, flat_set (fun c hc => h c (List.mem_cons_of_mem _ hc)) i j hi' hj x]
    simp
theorem mem_set_len {sz : Nat} {L : List (List Value)} (h : ∀ c ∈ L, c.length = sz) (i : Nat) {d : List Value} (hd : d.length = sz) : ∀ c ∈ L.set i d, c.length = sz := by
  intro c hc
  rcases List.mem_or_eq_of_mem_set hc with h' | h'
  · exact h c h'
  · rw [h', hd]

/-- an owned row whose elements take sz cells each -/
def OwnC (w : World) (base E sz : Nat) (v : Value) (L : List (List Value)) : Prop := w.ownsRow base E sz v L.length L.flatten ∧ ∀ c ∈ L, c.length = sz

section
variable {w w' : World} {base base' E sz : Nat} {v : Value} {L : List (List Value)}
theorem OwnC.nil : OwnC w base E sz (.slice none 0 0) [] := ⟨World.ownsRow_nil _ _ _ _, fun c hc => by cases hc⟩
theorem OwnC.ext (h : OwnC w base E sz v L) (hx : Ext w w') : OwnC w' base E sz v L := by
  refine ⟨⟨h.1.1, ?_⟩, h.2⟩
  rcases h.1.2 with h2 | ⟨g, cap, cur, hv, hg, hh, r⟩
  · exact .inl h2
  · exact .inr ⟨g, cap, cur, hv, hg, (hx.block g (Array.getElem?_eq_some_iff.1 hh).1).trans hh, r⟩
theorem OwnC.lower (h : OwnC w base E sz v L) (hb : base' ≤ base) : OwnC w base' E sz v L :=
  ⟨⟨h.1.1, h.1.2.imp id fun ⟨g, cap, cur, hv, hg, r⟩ => ⟨g, cap, cur, hv, Nat.le_trans hb hg, r⟩⟩, h.2⟩
theorem OwnC.kept {row : Option Nat} (h : OwnC w base E sz v L) (hg : w.grownBy w' row) (hne : v.ownBlock = none ∨ v.ownBlock ≠ row) : OwnC w' base E sz v L := ⟨World.ownsRow.kept h.1 hg hne, h.2⟩
theorem OwnC.chg {lo hi : Nat} (h : OwnC w base E sz v L) (k : Chg lo hi w w') (hb : hi ≤ base) : OwnC w' base E sz v L := by
  refine ⟨⟨h.1.1, ?_⟩, h.2⟩
  rcases h.1.2 with h2 | ⟨g, cap, cur, hv, hg, hh, r⟩
  · exact .inl h2
  · exact .inr ⟨g, cap, cur, hv, hg, (k.block g (Array.getElem?_eq_some_iff.1 hh).1 (.inr (by omega))).trans hh, r⟩
theorem OwnC.form (h : OwnC w base E sz v L) : ∃ a c, v = .slice a L.length c := by
  rcases h.1.2 with ⟨rfl, h0⟩ | ⟨g, cap, cur, rfl, _⟩
  · rw [h0]; exact ⟨_, _, rfl⟩
  · exact ⟨_, _, rfl⟩
theorem OwnC.lt (h : OwnC w base E sz v L) (hn : L ≠ []) : ∃ g c, v = .slice (some ⟨g, 0, none⟩) L.length c ∧ v.ownBlock = some g ∧ base ≤ g ∧ g < w.heap.size ∧ L.length ≤ c ∧ c ≤ maxLen := by
  rcases h.1.2 with ⟨rfl, h0⟩ | ⟨g, cap, cur, rfl, hb, hh, h1, h2, _⟩
  · exact absurd (List.eq_nil_of_length_eq_zero h0) hn
  · exact ⟨g, cap, rfl, rfl, hb, (Array.getElem?_eq_some_iff.1 hh).1, h1, h2⟩
theorem OwnC.cell {g c : Nat} (h : OwnC w base E sz (.slice (some ⟨g, 0, none⟩) L.length c) L) (i j : Nat) (hi : i < L.length) (hj : j < sz) :
    w.cell? ⟨g, i * sz + j, none⟩ = (L[i])[j]? ∧ w.frozen? ⟨g, i * sz + j, none⟩ = false := by
  refine ⟨?_, World.ownsRow.frozenAt h.1 _⟩
  rw [World.ownsRow.cellAt h.1 _ ?_, flat_get h.2 i j hi hj]
  calc i * sz + j < i * sz + sz := by omega
    _ = (i + 1) * sz := by rw [Nat.add_mul]; omega
    _ ≤ L.length * sz := Nat.mul_le_mul_right _ hi
theorem OwnC.set {g c : Nat} (h : OwnC w base E sz (.slice (some ⟨g, 0, none⟩) L.length c) L) (i j : Nat) (hi : i < L.length) (hj : j < sz) (x : Value) :
    OwnC (w.setCell ⟨g, i * sz + j, none⟩ x) base E sz (.slice (some ⟨g, 0, none⟩) L.length c) (L.set i ((L[i]).set j x)) := by
  have h1 := (World.ownsRow.stored h.1 (i * sz + j) x).1
  rw [flat_set h.2 i j hi hj] at h1
  refine ⟨by rw [List.length_set]; exact h1, mem_set_len h.2 i ?_⟩
  rw [List.length_set]; exact h.2 _ (List.getElem_mem hi)
theorem OwnC.made (w : World) (cs : Array Value) (n : Nat) (hb : base ≤ w.heap.size) (hm : L.length ≤ maxLen) (hs : cs.toList = L.flatten) (hl : ∀ c ∈ L, c.length = sz) :
    OwnC (w.alloc (.cells cs E)) base E sz (.slice (some ⟨w.heap.size, 0, none⟩) L.length L.length) L := by
  refine ⟨?_, hl⟩
  rw [← hs]
  exact World.ownsRow_lit w cs L.length hb hm (by have := congrArg List.length hs; rw [flat_len hl] at this; simpa using this)

/-- the one element that an append takes -/
theorem src_one (w : World) (cs : List Value) (hl : cs.length = sz) (h1 : ∀ u ∈ cs, u.oneCell' = true) : SrcR (w.alloc (.cells cs.toArray E)) sz (.slice (some ⟨w.heap.size, 0, none⟩) 1 1) 1 cs := by
  refine ⟨some ⟨w.heap.size, 0, none⟩, 1, rfl, (fun h => by cases h), ?_, by omega, h1⟩
  rintro ad hh j u hu
  cases hh
  have e : (⟨w.heap.size, 0, none⟩ : Addr).add j = ⟨w.heap.size, j, none⟩ := by unfold Addr.add; split <;> simp_all
  rw [e, World.cell?_alloc_new]
  simpa using hu
theorem OwnC.snoc {v' : Value} {c : List Value} (h : OwnC w base E sz v L) (hc : c.length = sz) (h' : w'.ownsRow base E sz v' (L.length + 1) (L.flatten ++ c)) : OwnC w' base E sz v' (L ++ [c]) := by
  refine ⟨?_, fun d hd => ?_⟩
  · rw [List.flatten_append, List.length_append]; simpa using h'
  · rcases List.mem_append.1 hd with hd | hd
    · exact h.2 d hd
    · simp at hd; rw [hd, hc]
end
section
variable {T E sz bytes : Nat} {z : Value} {w : World} {base : Nat} {v src : Value} {L : List (List Value)} {c : List Value}
theorem wpList_appC (hT : Try.prog.underlying T = some (.slice E)) (hI : (Try.prog.info? E).map (fun i => (i.zero, i.size, i.bytes)) = some (some z, sz, bytes)) (hzs : z.cells.size = sz) (hsz : 0 < sz)
    {ops : Array Oper} {rest : List Oper} {o : Oper} {a : Act} {Q : Exit → Act → World → Prop} (hgd : o.guard = none) (s x : Operand)
    (ho : o.op = .call { callee := .builtin .append, args := #[s, x], argTypes := #[T, T] })
    (hs : a.eval s = v) (hx : a.eval x = src) (h : OwnC w base E sz v L) (hsrc : SrcR w sz src 1 c) (h63 : L.length + 1 ≤ 4194304) (hbytes : (L.length + 1) * bytes ≤ 140737488355328) (hb : base ≤ w.heap.size)
    (hK : ∀ v' w', OwnC w' base E sz v' (L ++ [c]) → w.grownBy w' v.ownBlock → Below base w w' → (v'.ownBlock = v.ownBlock ∨ v'.ownBlock = some w.heap.size) → wpList Try.prog ops Q rest (a.put o.dst v') w') : wpList Try.prog ops Q (o :: rest) a w :=
  wpList_appR hT hI hzs hsz hgd s x ho hs hx h.1 hsrc h63 hbytes hb fun v' w' h1 h2 h3 h4 => hK v' w' (h.snoc (by have := hsrc; obtain ⟨_, _, _, _, _, h5, _⟩ := this; omega) h1) h2 h3 h4
end

end Go.Proofs.Ytfbbnbpobojboaa

/- The contracts of library functions, laid at this translation: no condition. -/
namespace Go.Proofs
open Go.Shelf
end Go.Proofs

/- Plain laws on lists of ints: ascending lists, sorted and compacted lists, lists of different numbers. -/
namespace Go.Proofs.Ytfbbnbpobojboaa

end Go.Proofs.Ytfbbnbpobojboaa

/- The library's sort, compact, contains, index and equal on lists of ints, in the words of these proofs. -/
namespace Go.Proofs.Ytfbbnbpobojboaa
open Go.RowKit Go.Sort
set_option linter.unusedVariables false
set_option maxRecDepth 100000


end Go.Proofs.Ytfbbnbpobojboaa

/- Walks: the cells of a view, told once; what two views have; places in a list; lists of different numbers. -/
namespace Go.Proofs.Ytfbbnbpobojboaa
open Go.RowKit
set_option linter.unusedVariables false
set_option maxRecDepth 100000

end Go.Proofs.Ytfbbnbpobojboaa

/- Walks: one to one views, what two views have, and the program's exported questions about them. -/
namespace Go.Proofs.Ytfbbnbpobojboaa
open Go.RowKit
set_option linter.unusedVariables false
set_option maxRecDepth 100000

end Go.Proofs.Ytfbbnbpobojboaa

/- Plain laws: the program's words on cells are the reference's. -/
namespace Go.Proofs.Ytfbbnbpobojboaa
open Go.RowKit

end Go.Proofs.Ytfbbnbpobojboaa

/- Plain laws on ranges of ints: the numbers of a range, normal forms, progressions. -/
namespace Go.Proofs.Ytfbbnbpobojboaa
set_option linter.unusedVariables false

/-- sets of numbers that go on by their own differences -/
def ApS (S : Int → Prop) : Prop := ∀ x y z u v, S x → S y → S z → S u → S v → x ≤ z + (v - u) → z + (v - u) ≤ y → S (z + (v - u))
theorem ApS.and {S T : Int → Prop} (h : ApS S) (k : ApS T) : ApS fun x => S x ∧ T x :=
  fun x y z u v hx hy hz hu hv h1 h2 => ⟨h x y z u v hx.1 hy.1 hz.1 hu.1 hv.1 h1 h2, k x y z u v hx.2 hy.2 hz.2 hu.2 hv.2 h1 h2⟩
theorem ApS.congr {S T : Int → Prop} (h : ApS S) (k : ∀ x, S x ↔ T x) : ApS T :=
  fun x y z u v hx hy hz hu hv h1 h2 => (k _).1 (h x y z u v ((k _).2 hx) ((k _).2 hy) ((k _).2 hz) ((k _).2 hu) ((k _).2 hv) h1 h2)
end Go.Proofs.Ytfbbnbpobojboaa

/- Plain laws: repeated cells, gaps between cells, later and earlier cells. -/
namespace Go.Proofs.Ytfbbnbpobojboaa
open Go.RowKit
set_option linter.unusedVariables false

end Go.Proofs.Ytfbbnbpobojboaa

/- Plain laws: products of extents, ranks of indices, other shapes of the same cells. -/
namespace Go.Proofs.Ytfbbnbpobojboaa
open Go.RowKit
set_option linter.unusedVariables false

/-- a few extents, none of them great -/
def Small (xs : List Int) : Prop := xs.length ≤ 4 ∧ ∀ e ∈ xs, 0 ≤ e ∧ e ≤ 60
theorem Small.of {xs : List Int} (h : shapeB xs = true) : Small xs := ⟨(shapeB_in h).1, (shapeB_in h).2.1⟩
theorem Small.drop {xs : List Int} (h : Small xs) (k : Nat) : Small (xs.drop k) := ⟨by have := h.1; simp; omega, fun e he => h.2 e (List.mem_of_mem_drop he)⟩
theorem Small.take {xs : List Int} (h : Small xs) (k : Nat) : Small (xs.take k) := ⟨by have := h.1; simp; omega, fun e he => h.2 e (List.mem_of_mem_take he)⟩
end Go.Proofs.Ytfbbnbpobojboaa

/- Plain laws on views: indices in order, the cells of indices, ranks. -/
namespace Go.Proofs.Ytfbbnbpobojboaa
open Go.RowKit
set_option linter.unusedVariables false
set_option maxRecDepth 100000

/-- is it an index of a shape? -/
def IxOf : List Int → List Int → Prop
  | [], [] => True
  | e :: s, x :: r => (0 ≤ x ∧ x < e) ∧ IxOf s r
  | _, _ => False
theorem IxOf.len : ∀ {s r : List Int}, IxOf s r → r.length = s.length
  | [], [], _ => rfl
  | e :: s, x :: r, h => by simp [IxOf.len h.2]
  | [], x :: r, h => h.elim
  | e :: s, [], h => h.elim
theorem IxOf.pos : ∀ {s r : List Int}, IxOf s r → ∀ e ∈ s, 1 ≤ e
  | [], _, _ => by simp
  | e :: s, x :: r, h => by
    intro q hq
    rcases List.mem_cons.1 hq with rfl | hq
    · have := h.1; omega
    · exact IxOf.pos h.2 q hq
  | e :: s, [], h => h.elim
end Go.Proofs.Ytfbbnbpobojboaa

/- Words for loops that append to a row of their own beside a list that they read. No condition. -/
namespace Go.Proofs.Ytfbbnbpobojboaa
open Go.RowKit
set_option linter.unusedVariables false

theorem Ext.frz {w w' : World} (h : Ext w w') {b o : Nat} {f : Bool} (hb : b < w.heap.size) (hf : w.frozen? ⟨b, o, none⟩ = f) : w'.frozen? ⟨b, o, none⟩ = f := (h.frule b o hb).trans hf

/-- the row v of the call's own, blocks from B on, reads ys; the list u, which is only read, lies apart from it -/
structure Beside (B : Nat) (w0 wr : World) (v : Value) (ys : List Int) (u : Value) (xs : List Int) : Prop where
  own : OwnI wr B v ys
  bel : Below B w0 wr
  ints : Ints wr 0 u xs
  size : B ≤ wr.heap.size
  sep : xs ≠ [] → ∀ b off n c, u = .slice (some ⟨b, off, none⟩) n c → v.ownBlock ≠ some b

theorem Beside.start {w1 w2 : World} {u : Value} {xs : List Int} {lo : Nat} (hx : Ext (w1.alloc (.cells #[] 3)) w2) (hi : Ints w2 lo u xs) (hl : w1.heap.size < lo) :
    Beside w1.heap.size w1 w2 (.slice (some ⟨w1.heap.size, 0, none⟩) 0 0) [] u xs := by
  have hx' : Ext w1 w2 := Ext.trans ((Ext.refl _).alloc _) hx
  refine ⟨(OwnI.lit0 w1 w1.heap.size (Nat.le_refl _)).ext hx, hx', hi.lower (Nat.zero_le _), hx'.size, fun hn b off n c hu => ?_⟩
  subst hu
  obtain ⟨b', off', h4, h5, _⟩ := hi.blk hn
  cases h4
  intro h; cases h; simp at h5; omega
theorem Beside.ext {B : Nat} {w0 wr w3 : World} {v u : Value} {ys xs : List Int} (h : Beside B w0 wr v ys u xs) (hx : Ext wr w3) : Beside B w0 w3 v ys u xs :=
  ⟨h.own.ext hx, Below.trans h.bel (Below.mono hx h.size), h.ints.ext hx, Nat.le_trans h.size hx.size, h.sep⟩

theorem Ints.drop {w : World} {lo : Nat} {a : Option Addr} {n c : Nat} {xs : List Int} (h : Ints w lo (.slice a n c) xs) (k : Nat) (hk : k ≤ n) : Ints w lo (.slice (if c = k then a else a.map (·.add k)) (n - k) (c - k)) (xs.drop k) := by
  obtain ⟨a', cap, hv, h1, h2, ⟨h3, h3'⟩, h4⟩ := h
  cases hv
  have hl : (xs.drop k).length = xs.length - k := by simp
  refine ⟨_, c - k, by rw [hl], by omega, by omega, ⟨by omega, fun e => ?_⟩, fun i hi => ?_⟩
  · by_cases hc : c = k
    · omega
    · rw [if_neg hc] at e
      cases a with
      | none => have := h3' rfl; omega
      | some ad => simp at e
  · obtain ⟨b, off, rfl, hb, hc, hf⟩ := h4 (k + i) (by omega)
    rw [if_neg (by omega)]
    have e : (⟨b, off, none⟩ : Addr).add k = ⟨b, off + k, none⟩ := by unfold Addr.add; split <;> simp_all
    refine ⟨b, off + k, by rw [Option.map_some, e], hb, ?_, by rw [Nat.add_assoc]; exact hf⟩
    rw [Nat.add_assoc, hc]
    simp [show k + i < xs.length by omega]

theorem PInts.of {w w' : World} {lo base : Nat} {xs : List Int} {v : Value} (h : OwnZ w' base v xs) (hi : Ints w' lo v xs) (hb : w.heap.size ≤ base) (hx : Ext w w') : PInts w xs (.returned v) w' := PInts.mkz h hb hi.len hx

theorem OwnI.made (w : World) (base n : Nat) (hb : base ≤ w.heap.size) (hn : n ≤ 4194304) : OwnI (w.alloc (.cells (madeCells #[Value.int .i64 0] n) 3)) base (.slice (some ⟨w.heap.size, 0, none⟩) n n) (List.replicate n 0) := by
  have := World.ownsRow_lit (e := 3) (size := 1) w (madeCells #[Value.int .i64 0] n) n hb (by unfold maxLen; omega) (by simp [madeCells])
  unfold OwnI
  rw [made_ints] at this
  simpa using this

end Go.Proofs.Ytfbbnbpobojboaa

/- Walks: WayOf of the program and of the reference. -/
namespace Go.Proofs.Ytfbbnbpobojboaa
open Go.RowKit
set_option linter.unusedVariables false
set_option maxRecDepth 100000

end Go.Proofs.Ytfbbnbpobojboaa

/- Walks: values that are loaded from and stored in memories, of the program and of the reference. -/
namespace Go.Proofs.Ytfbbnbpobojboaa
open Go.RowKit
set_option linter.unusedVariables false
set_option maxRecDepth 100000

/-- a list after the first k stores -/
def putUp (mem ix vs : List Int) (k : Nat) : List Int := (List.range k).foldl (fun m i => m.set (ix.getD i 0).toNat (vs.getD i 0)) mem
theorem putUp_succ (mem ix vs : List Int) (k : Nat) : putUp mem ix vs (k+1) = (putUp mem ix vs k).set (ix.getD k 0).toNat (vs.getD k 0) := by
  unfold putUp; rw [List.range_succ, List.foldl_append]; rfl
theorem putUp_len (mem ix vs : List Int) (k : Nat) : (putUp mem ix vs k).length = mem.length := by
  induction k with
  | zero => rfl
  | succ k ih => rw [putUp_succ, List.length_set, ih]
theorem OwnI.row {w : World} {base : Nat} {v : Value} {xs : List Int} (h : OwnI w base v xs) (hn : xs ≠ []) : ∃ g cap, v = .slice (some ⟨g, 0, none⟩) xs.length cap ∧ base ≤ g ∧ g < w.heap.size := by
  rcases h.2 with ⟨rfl, h0⟩ | ⟨g, cap, cur, rfl, hb, hg, _⟩
  · exact absurd (List.eq_nil_of_length_eq_zero h0) hn
  · exact ⟨g, cap, rfl, hb, (Array.getElem?_eq_some_iff.1 hg).1⟩

theorem OwnZ.ofNe {w : World} {base : Nat} {v : Value} {xs : List Int} (h : OwnZ w base v xs) (hn : xs ≠ []) : OwnI w base v xs := h.elim (fun h => absurd h.1 hn) id

end Go.Proofs.Ytfbbnbpobojboaa

/- Walks: SwapViews of the program and of the reference. -/
namespace Go.Proofs.Ytfbbnbpobojboaa
open Go.RowKit
set_option linter.unusedVariables false
set_option maxRecDepth 100000

/-- a call hands back a new list and whether it could be made -/
def PIntsB (w : World) (xs : List Int) (b : Bool) (e : Ending) (w' : World) : Prop := ∃ v, e = .returned (.tuple #[v, .bool b]) ∧ Ints w' w.heap.size v xs ∧ OwnZ w' w.heap.size v xs ∧ Ext w w'
theorem PIntsB.no {w w' : World} (h : Ext w w') : PIntsB w [] false (.returned (.tuple #[.slice none 0 0, .bool false])) w' :=
  ⟨_, rfl, Ints.nil _ _ _ _ (by simp) (fun _ => rfl), .inl ⟨rfl, none, 0, rfl, by simp, fun _ => rfl⟩, h⟩
theorem PIntsB.yes {w w' : World} {lo base : Nat} {xs : List Int} {v : Value} (h : OwnZ w' base v xs) (hi : Ints w' lo v xs) (hb : w.heap.size ≤ base) (hx : Ext w w') : PIntsB w xs true (.returned (.tuple #[v, .bool true])) w' :=
  ⟨v, rfl, (h.lower hb).ints hi.len, h.lower hb, hx⟩
end Go.Proofs.Ytfbbnbpobojboaa

/- Walks: CellsOf and OverlapOf of the program and of the reference. -/
namespace Go.Proofs.Ytfbbnbpobojboaa
open Go.RowKit
set_option linter.unusedVariables false
set_option maxRecDepth 100000

end Go.Proofs.Ytfbbnbpobojboaa

/- Walks: normal forms of ranges, LineOf of the program and of the reference, comparison of ranges. -/
namespace Go.Proofs.Ytfbbnbpobojboaa
open Go.RowKit
set_option linter.unusedVariables false
set_option maxRecDepth 100000

end Go.Proofs.Ytfbbnbpobojboaa

/- Walks: valid ranges and the numbers of a range, of the program and of the reference. -/
namespace Go.Proofs.Ytfbbnbpobojboaa
open Go.RowKit
set_option linter.unusedVariables false
set_option maxRecDepth 100000

end Go.Proofs.Ytfbbnbpobojboaa

/- Walks towards SplitDim: dimensions, ranks. -/
namespace Go.Proofs.Ytfbbnbpobojboaa
open Go.RowKit
set_option linter.unusedVariables false
set_option maxRecDepth 100000

end Go.Proofs.Ytfbbnbpobojboaa

/- A copy of a view by the reference. -/
namespace Go.Proofs.Ytfbbnbpobojboaa
open Go.RowKit
set_option linter.unusedVariables false
set_option maxRecDepth 100000

end Go.Proofs.Ytfbbnbpobojboaa

/- Walks: a view that the reference hands back, with a bool. -/
namespace Go.Proofs.Ytfbbnbpobojboaa
open Go.RowKit
set_option linter.unusedVariables false
set_option maxRecDepth 100000

/-- a call hands back a new view and a bool -/
def PViewB (w : World) (base : Int) (shape strides : List Int) (b : Bool) (e : Ending) (w' : World) : Prop :=
  ∃ sh st, e = .returned (.tuple #[.agg #[.int .i64 base, sh, st], .bool b]) ∧ Ints w' w.heap.size sh shape ∧ Ints w' w.heap.size st strides ∧ OwnZ w' w.heap.size sh shape ∧ OwnZ w' w.heap.size st strides ∧
    (shape ≠ [] → strides ≠ [] → sh.ownBlock ≠ st.ownBlock) ∧ Ext w w'
theorem PViewB.no {w w' : World} (h : Ext w w') : PViewB w 0 [] [] false (.returned (.tuple #[.agg #[.int .i64 0, .slice none 0 0, .slice none 0 0], .bool false])) w' :=
  ⟨_, _, rfl, Ints.nil _ _ _ _ (by simp) (fun _ => rfl), Ints.nil _ _ _ _ (by simp) (fun _ => rfl), .inl ⟨rfl, none, 0, rfl, by simp, fun _ => rfl⟩, .inl ⟨rfl, none, 0, rfl, by simp, fun _ => rfl⟩, fun h => absurd rfl h, h⟩

theorem PViewB.put {w w1 w2 : World} {base : Int} {shape strides : List Int} {v1 v2 : Value} {a b c : Addr} {u v x : Value} {g : Nat} (l1 : shape.length ≤ 4194304) (l2 : strides.length ≤ 4194304) (o1 : OwnZ w2 w1.heap.size v1 shape) (o2 : OwnZ w2 w1.heap.size v2 strides)
    (od : shape ≠ [] → strides ≠ [] → v1.ownBlock ≠ v2.ownBlock) (hz : w.heap.size ≤ w1.heap.size ∧ g < w1.heap.size) (ha : a.block = g) (hb : b.block = g) (hc : c.block = g) (hx : Ext w (((w2.setCell a u).setCell b v).setCell c x)) :
    PViewB w base shape strides true (.returned (.tuple #[.agg #[.int .i64 base, v1, v2], .bool true])) (((w2.setCell a u).setCell b v).setCell c x) := by
  have o1' := ((o1.setCell_below (a := a) (by omega) u).setCell_below (a := b) (by omega) v).setCell_below (a := c) (by omega) x
  have o2' := ((o2.setCell_below (a := a) (by omega) u).setCell_below (a := b) (by omega) v).setCell_below (a := c) (by omega) x
  exact ⟨v1, v2, rfl, (o1'.lower hz.1).ints l1, (o2'.lower hz.1).ints l2, o1'.lower hz.1, o2'.lower hz.1, od, hx⟩
end Go.Proofs.Ytfbbnbpobojboaa

/- Walks: strides by rows and numbers in order, of the reference; orders of dimensions. -/
namespace Go.Proofs.Ytfbbnbpobojboaa
open Go.RowKit
set_option linter.unusedVariables false
set_option maxRecDepth 100000

end Go.Proofs.Ytfbbnbpobojboaa

/- Walks: new views of the reference, tidy views. -/
namespace Go.Proofs.Ytfbbnbpobojboaa
open Go.RowKit
set_option linter.unusedVariables false
set_option maxRecDepth 100000

theorem PView.no {w w' : World} (h : Ext w w') : PView w 0 [] [] (.returned (.agg #[.int .i64 0, .slice none 0 0, .slice none 0 0])) w' :=
  ⟨_, _, rfl, Ints.nil _ _ _ _ (by simp) (fun _ => rfl), Ints.nil _ _ _ _ (by simp) (fun _ => rfl), .inl ⟨rfl, none, 0, rfl, by simp, fun _ => rfl⟩, .inl ⟨rfl, none, 0, rfl, by simp, fun _ => rfl⟩, fun h => absurd rfl h, h⟩
theorem PView.two {w w' : World} {base : Int} {shape strides : List Int} {v1 v2 : Value} {b1 b2 m : Nat} (o1 : OwnZ w' b1 v1 shape) (o2 : OwnZ w' b2 v2 strides) (h1 : w.heap.size ≤ b1) (h2 : w.heap.size ≤ b2)
    (hd : (shape ≠ [] → ∀ g, v1.ownBlock = some g → g < m) ∧ m ≤ b2 ∨ (strides ≠ [] → ∀ g, v2.ownBlock = some g → g < m) ∧ m ≤ b1) (l1 : shape.length ≤ 4194304) (l2 : strides.length ≤ 4194304) (hx : Ext w w') : PView w base shape strides (.returned (.agg #[.int .i64 base, v1, v2])) w' := by
  refine ⟨v1, v2, rfl, (o1.lower h1).ints l1, (o2.lower h2).ints l2, o1.lower h1, o2.lower h2, fun n1 n2 => ?_, hx⟩
  obtain ⟨g1, e1, t1, _⟩ := o1.lt n1
  obtain ⟨g2, e2, t2, _⟩ := o2.lt n2
  rw [e1, e2]
  rcases hd with ⟨hd, hm⟩ | ⟨hd, hm⟩
  · have := hd n1 g1 e1; simp; omega
  · have := hd n2 g2 e2; simp; omega

theorem Chg.three {lo : Nat} (w : World) (x y z : Value) : Chg lo (lo + 1) w (((w.setCell ⟨lo, 0, none⟩ x).setCell ⟨lo, 1, none⟩ y).setCell ⟨lo, 2, none⟩ z) :=
  (((Chg.refl lo (lo + 1) w).setCell (p := ⟨lo, 0, none⟩) (Nat.le_refl _) (Nat.lt_succ_self _) _).setCell (p := ⟨lo, 1, none⟩) (Nat.le_refl _) (Nat.lt_succ_self _) _).setCell (p := ⟨lo, 2, none⟩) (Nat.le_refl _) (Nat.lt_succ_self _) _

end Go.Proofs.Ytfbbnbpobojboaa

/- Walks: tidy views, a number put into a list (of the reference). -/
namespace Go.Proofs.Ytfbbnbpobojboaa
open Go.RowKit
set_option linter.unusedVariables false
set_option maxRecDepth 100000

end Go.Proofs.Ytfbbnbpobojboaa

/- Plain laws on views: the cells of all indices, views that are drawn out of views. -/
namespace Go.Proofs.Ytfbbnbpobojboaa
open Go.RowKit
set_option linter.unusedVariables false
set_option maxRecDepth 100000

end Go.Proofs.Ytfbbnbpobojboaa

/- Plain laws on views: the cell at a rank, indices one step apart. -/
namespace Go.Proofs.Ytfbbnbpobojboaa
open Go.RowKit
set_option linter.unusedVariables false
set_option maxRecDepth 100000

end Go.Proofs.Ytfbbnbpobojboaa

/- Plain laws on views: dimensions as pairs, in any order; what makes a view one, by its least and greatest cell. -/
namespace Go.Proofs.Ytfbbnbpobojboaa
open Go.RowKit
set_option linter.unusedVariables false
set_option maxRecDepth 100000

end Go.Proofs.Ytfbbnbpobojboaa

/- Walks: MeetRanges of the program and of the reference. -/
namespace Go.Proofs.Ytfbbnbpobojboaa
open Go.RowKit
set_option linter.unusedVariables false
set_option maxRecDepth 100000

end Go.Proofs.Ytfbbnbpobojboaa

/- Walks: what is asked of ranges: lengths, numbers, places, covers. -/
namespace Go.Proofs.Ytfbbnbpobojboaa
open Go.RowKit
set_option linter.unusedVariables false
set_option maxRecDepth 100000

end Go.Proofs.Ytfbbnbpobojboaa

/- Walks: slices of the reference: valid ones, ends, indices, and what a slice takes of a range. -/
namespace Go.Proofs.Ytfbbnbpobojboaa
open Go.RowKit
set_option linter.unusedVariables false
set_option maxRecDepth 100000

end Go.Proofs.Ytfbbnbpobojboaa

/- Plain laws: numbers in a row and their normal range; a view of some indices of a dimension. -/
namespace Go.Proofs.Ytfbbnbpobojboaa
open Go.RowKit
set_option linter.unusedVariables false
set_option maxRecDepth 100000

/-- where an element lies -/
theorem Ints.at {w : World} {lo : Nat} {a : Option Addr} {n c : Nat} {xs : List Int} (h : Ints w lo (.slice a n c) xs) (i : Nat) (hi : i < xs.length) : ∃ b off, a = some ⟨b, off, none⟩ ∧ w.cell? ⟨b, off + i, none⟩ = some (.int .i64 (xs.getD i 0)) := by
  obtain ⟨a', cap, hv, h1, h2, h3, h4⟩ := h
  cases hv
  obtain ⟨b, off, ha, hb, hc, hf⟩ := h4 i hi
  exact ⟨b, off, ha, hc⟩

end Go.Proofs.Ytfbbnbpobojboaa

/- A region that draws its order, shown once for every order: each operation is shown at whatever world may stand when it comes up, from what those told that it waits for; what each tells must last. No condition. -/
namespace Go.Proofs.Ytfbbnbpobojboaa.RG
open Go
set_option linter.unusedVariables false
section
variable {P : Program} {ops : Array Oper} {md : Region.Mode}

def dst (ops : Array Oper) (i : Nat) : Option Tmp := (ops[i]?).bind (·.dst)
/-- facts told one by one -/
def Alls (F : Nat → Prop) : Nat → Nat → Prop
  | _, 0 => True
  | k, m+1 => F k ∧ Alls F (k+1) m
theorem Alls.mk {F : Nat → Prop} : ∀ (m k : Nat), (∀ i, i < m → F (k + i)) → Alls F k m
  | 0, k, _ => trivial
  | m+1, k, h => ⟨h 0 (by omega), Alls.mk m (k+1) fun i hi => by have := h (i+1) (by omega); rwa [show k + (i + 1) = k + 1 + i by omega] at this⟩

end
end Go.Proofs.Ytfbbnbpobojboaa.RG

/- Walks: the reader of the drawn arguments: its numbers. -/
namespace Go.Proofs.Ytfbbnbpobojboaa
open Go.RowKit
set_option linter.unusedVariables false
set_option maxRecDepth 100000

/-- a slice of a few bytes, in blocks below hi -/
def Bys (w : World) (hi : Nat) (a : Option Addr) (n cap : Nat) : Prop :=
  n ≤ cap ∧ cap ≤ maxLen ∧ n ≤ 2000 ∧ ∀ i, i < n → ∃ b off x, a = some ⟨b, off, none⟩ ∧ b < hi ∧ w.cell? ⟨b, off + i, none⟩ = some (.int .u8 x) ∧ 0 ≤ x ∧ x < 256
/-- the reader at block rb, of which at most k numbers were asked -/
structure Rd (w : World) (rb k : Nat) : Prop where
  ex : ∃ a n cap p, (0 ≤ p ∧ p ≤ (k : Int)) ∧ w.cell? ⟨rb, 0, none⟩ = some (.slice a n cap) ∧ w.cell? ⟨rb, 1, none⟩ = some (.int .i64 p) ∧ w.frozen? ⟨rb, 1, none⟩ = false ∧ Bys w rb a n cap
theorem Bys.chg {w w' : World} {hi lo h2 : Nat} {a : Option Addr} {n cap : Nat} (h : Bys w hi a n cap) (k : Chg lo h2 w w') (hl : hi ≤ lo) : Bys w' hi a n cap := by
  obtain ⟨h1, h2, h3, h4⟩ := h
  refine ⟨h1, h2, h3, fun i hi => ?_⟩
  obtain ⟨b, off, x, ha, hb, hc, hx⟩ := h4 i hi
  exact ⟨b, off, x, ha, hb, k.cell (.inl (by omega)) hc, hx⟩
theorem Rd.ext {w w' : World} {rb k : Nat} (h : Rd w rb k) (hx : Ext w w') : Rd w' rb k := by
  obtain ⟨a, n, cap, p, hp, h0, h1, h2, hb⟩ := h.ex
  refine ⟨a, n, cap, p, hp, hx.cell h0, hx.cell h1, (hx.frule rb 1 (qB h1)).trans h2, ?_⟩
  obtain ⟨g1, g2, g3, g4⟩ := hb
  refine ⟨g1, g2, g3, fun i hi => ?_⟩
  obtain ⟨b, off, x, ha, hbb, hc, hxx⟩ := g4 i hi
  exact ⟨b, off, x, ha, hbb, hx.cell hc, hxx⟩
theorem Rd.mono {w : World} {rb k k' : Nat} (h : Rd w rb k) (hk : k ≤ k') : Rd w rb k' := by
  obtain ⟨a, n, cap, p, hp, r⟩ := h.ex
  exact ⟨a, n, cap, p, by omega, r⟩
theorem Rd.lt {w : World} {rb k : Nat} (h : Rd w rb k) : rb < w.heap.size := by
  obtain ⟨a, n, cap, p, hp, h0, _⟩ := h.ex
  exact qB h0
/-- cells of other blocks than the reader's -/
theorem Rd.chgO {w w' : World} {rb k lo hi : Nat} (h : Rd w rb k) (c : Chg lo hi w w') (hl : rb < lo) : Rd w' rb k := by
  obtain ⟨a, n, cap, p, hp, h0, h1, h2, hb⟩ := h.ex
  refine ⟨a, n, cap, p, hp, c.cell (.inl hl) h0, c.cell (.inl hl) h1, ?_, hb.chg c (by omega)⟩
  exact (World.frozen?_of_block (a := ⟨rb, 1, none⟩) (c.block rb (qB h1) (.inl hl))).trans h2

/-- the bytes that the law was called with -/
def BysIn (w : World) (a : Option Addr) (n cap : Nat) : Prop :=
  n ≤ cap ∧ cap ≤ maxLen ∧ ∀ i, i < n → ∃ b off x, a = some ⟨b, off, none⟩ ∧ w.cell? ⟨b, off + i, none⟩ = some (.int .u8 x) ∧ 0 ≤ x ∧ x < 256
theorem Rd.alloc {w : World} {rb k : Nat} (h : Rd w rb k) (o : Obj) : Rd (w.alloc o) rb k := h.ext ((Ext.refl _).alloc _)
theorem Rd.drew {w : World} {rb k : Nat} (h : Rd w rb k) : Rd w.drew rb k := h.ext ((Ext.refl _).drew)
theorem Rd.drewN {w : World} {rb k : Nat} (h : Rd w rb k) (n : Nat) : Rd (w.drewN n) rb k := h.ext ((Ext.refl _).drewN n)
theorem Rd.set {w : World} {rb k : Nat} {a : Addr} (h : Rd w rb k) (ha : rb < a.block) (u : Value) : Rd (w.setCell a u) rb k :=
  h.chgO ((Chg.refl a.block (a.block + 1) w).setCell (p := a) (Nat.le_refl _) (Nat.lt_succ_self _) u) ha
theorem Rd.set2 {w : World} {rb k : Nat} {a : Addr} {u : Value} (ha : rb < a.block) (h : Rd w rb k) : Rd (w.setCell a u) rb k := h.set ha u
/-- what was there before, but the reader, is as it was -/
def Rch (rb : Nat) (w w' : World) : Prop := Chg rb (rb + 1) w w'
theorem Rch.refl (rb : Nat) (w : World) : Rch rb w w := Chg.refl _ _ _
theorem Rch.step {rb : Nat} {w a b : World} (h : Rch rb w a) (k : Chg rb (rb + 1) a b) : Rch rb w b := Chg.trans h k
theorem Rch.alloc {rb : Nat} {w w' : World} (h : Rch rb w w') (o : Obj) : Rch rb w (w'.alloc o) := Chg.ext h ((Ext.refl _).alloc _)
theorem Rch.drew {rb : Nat} {w w' : World} (h : Rch rb w w') : Rch rb w w'.drew := Chg.ext h ((Ext.refl _).drew)
theorem Rch.drewN {rb : Nat} {w w' : World} (h : Rch rb w w') (n : Nat) : Rch rb w (w'.drewN n) := Chg.ext h ((Ext.refl _).drewN n)
theorem Rch.ext {rb : Nat} {w w' w'' : World} (h : Rch rb w w') (k : Ext w' w'') : Rch rb w w'' := Chg.ext h k
theorem Rch.set {rb : Nat} {w w' : World} (h : Rch rb w w') {a : Addr} (ha : w.heap.size ≤ a.block) (u : Value) : Rch rb w (w'.setCell a u) :=
  ⟨h.os, h.tape, h.output, by simpa using h.size, fun k hk hd => (Below.heap_setCell _ _ _ _ (by omega)).trans (h.block k hk hd)⟩
theorem Rch.size {rb : Nat} {w w' : World} (h : Rch rb w w') : w.heap.size ≤ w'.heap.size := Chg.size h
theorem Rch.rule {rb : Nat} {w w' : World} (h : Chg rb (rb + 1) w w') : ∀ b o, rb < b → b < w.heap.size → w'.cell? ⟨b, o, none⟩ = w.cell? ⟨b, o, none⟩ := fun b o h1 h2 => World.cell?_of_block (a := ⟨b, o, none⟩) (h.block b h2 (.inr h1))
theorem Rch.frule {rb : Nat} {w w' : World} (h : Chg rb (rb + 1) w w') : ∀ b o, rb < b → b < w.heap.size → w'.frozen? ⟨b, o, none⟩ = w.frozen? ⟨b, o, none⟩ := fun b o h1 h2 => World.frozen?_of_block (a := ⟨b, o, none⟩) (h.block b h2 (.inr h1))

/-- three numbers at a block -/
def RgAt (w : World) (g : Nat) : Prop := ∃ x y z : Int, w.cell? ⟨g, 0, none⟩ = some (.int .i64 x) ∧ w.cell? ⟨g, 1, none⟩ = some (.int .i64 y) ∧ w.cell? ⟨g, 2, none⟩ = some (.int .i64 z) ∧ w.frozen? ⟨g, 0, none⟩ = false ∧ w.frozen? ⟨g, 1, none⟩ = false ∧ w.frozen? ⟨g, 2, none⟩ = false
theorem RgAt.lt {w : World} {g : Nat} (h : RgAt w g) : g < w.heap.size := by obtain ⟨x, y, z, h, _⟩ := h; exact qB h

theorem BysIn.ext {w w' : World} {a : Option Addr} {n cap : Nat} (h : BysIn w a n cap) (hx : Ext w w') : BysIn w' a n cap := by
  obtain ⟨h1, h2, h3⟩ := h
  refine ⟨h1, h2, fun i hi => ?_⟩
  obtain ⟨b, off, x, ha, hc, hx2⟩ := h3 i hi
  exact ⟨b, off, x, ha, hx.cell hc, hx2⟩

end Go.Proofs.Ytfbbnbpobojboaa

/- A region that draws its order, some reads taken first under a condition on the world, which need not last behind the operations that wait for all those reads (a store to a cell that is read). No condition. -/
namespace Go.Proofs.Ytfbbnbpobojboaa
open Go
set_option linter.unusedVariables false
section
variable {P : Program} {ops : Array Oper} {Q : Exit → Act → World → Prop} {md : Region.Mode} {S : World → Prop} {tl : Nat → Bool}

/-- whatever order is picked; the condition holds behind each operation but those of tl -/
def wpTail (P : Program) (md : Region.Mode) (ops : Array Oper) (Q : Exit → Act → World → Prop) (S : World → Prop) (tl : Nat → Bool) : Nat → Array Bool → Act → World → Prop
  | 0, listed, a, w => Region.ready md ops listed = [] ∧ Q .normal a w
  | n + 1, listed, a, w =>
    (Region.ready md ops listed = [] → Q .normal a w) ∧
    ∀ i ∈ Region.ready md ops listed, wpOp P ops Q i (fun a' w' => (tl i = false → S w') ∧ wpTail P md ops Q S tl n (listed.setIfInBounds i true) a' w') a w

theorem wpTail.any : ∀ (n : Nat) (listed : Array Bool) (a : Act) (w : World), wpTail P md ops Q S tl n listed a w → wpAny P md ops Q n listed a w
  | 0, _, _, _, h => h
  | n + 1, _, _, _, h => ⟨h.1, fun i hi => wpOp_mono (fun a' w' h' => wpTail.any n _ a' w' h'.2) (h.2 i hi)⟩

/-- what waits for i -/
def waitsB (md : Region.Mode) (ops : Array Oper) (tl : Nat → Bool) (i : Nat) : Bool :=
  (List.range ops.size).all fun j => !tl j || (match ops[j]? with | some o => o.after.toList.any fun e => Region.binds md e && e.on == i | none => true)

theorem wpTail.first {i : Nat} {oi : Oper} {v : Value} (hi : ops[i]? = some oi) (hsel : ∀ (j : Nat) (o : Oper) cs b, ops[j]? = some o → o.op ≠ .select cs b)
    (hQ : ∀ c a w, Q (.panic c) (a.put oi.dst v) w → Q (.panic c) a w) (hti : tl i = false) (hwt : waitsB md ops tl i = true) :
    ∀ (n : Nat) (listed : Array Bool) (a : Act) (w : World),
      (∀ j oj, ops[j]? = some oj → j ≠ i → listed.getD j true = false → (∀ e ∈ oj.after, Region.binds md e = true → e.on ≠ i) → oi.apart ops oj = true) →
      i ∈ Region.ready md ops listed → YieldsIf P ops S oi v a → S w →
      wpTail P md ops Q S tl n (listed.setIfInBounds i true) (a.put oi.dst v) w → wpTail P md ops Q S tl (n + 1) listed a w := by
  intro n
  induction n with
  | zero =>
    intro listed a w _ hr hy hS H
    refine ⟨fun h => (by rw [h] at hr; cases hr), fun j hj => ?_⟩
    by_cases hji : j = i
    · subst hji; exact hy.wpOp hi hS ⟨fun _ => hS, H⟩
    · have h0 := ready_mono hj hji
      rw [H.1] at h0
      cases h0
  | succ n ih =>
    intro listed a w hfree hr hy hS H
    refine ⟨fun h => (by rw [h] at hr; cases hr), fun j hj => ?_⟩
    by_cases hji : j = i
    · subst hji; exact hy.wpOp hi hS ⟨fun _ => hS, H⟩
    · have h1 := H.2 j (ready_mono hj hji)
      obtain ⟨hjun, oj, hoj, hall⟩ := mem_ready.1 hj
      have hnot : ∀ e ∈ oj.after, Region.binds md e = true → e.on ≠ i := fun e he hb heq => by
        have h3 := hall e he hb
        have h4 := (mem_ready.1 hr).1
        rw [heq] at h3
        rcases Nat.lt_or_ge i listed.size with h' | h'
        · simp [h'] at h3 h4; rw [h4] at h3; cases h3
        · simp [Array.getElem?_eq_none h'] at h3
      have htj : tl j = false := by
        cases ht : tl j with
        | false => rfl
        | true =>
          have hlt := (Array.getElem?_eq_some_iff.1 hoj).1
          unfold waitsB at hwt
          rw [List.all_eq_true] at hwt
          have h5 := hwt j (List.mem_range.2 hlt)
          rw [ht, hoj] at h5
          simp only [Bool.not_true, Bool.false_or, List.any_eq_true, Bool.and_eq_true, beq_iff_eq] at h5
          obtain ⟨e, he, hb, hon⟩ := h5
          exact absurd hon (hnot e (by simpa using he) hb)
      have h2 := wpOp_putIf hoj (hfree j oj hoj hji hjun hnot) (fun cs b => hsel i oi cs b hi) (fun cs b => hsel j oj cs b hoj) hQ hy h1
      have hfree' : ∀ k ok, ops[k]? = some ok → k ≠ i → (listed.setIfInBounds j true).getD k true = false →
          (∀ e ∈ ok.after, Region.binds md e = true → e.on ≠ i) → oi.apart ops ok = true := fun k ok hk hki hun hno => by
        refine hfree k ok hk hki ?_ hno
        by_cases hjk : j = k
        · subst hjk; exact hjun
        · rw [getD_set_ne true hjk] at hun; exact hun
      refine wpOp_mono (fun a' w' h3 => ⟨h3.2.1, ih (listed.setIfInBounds j true) a' w' hfree' (ready_mono hr (Ne.symm hji)) h3.1 (h3.2.1 htj) ?_⟩) h2
      rw [Array.setIfInBounds_comm _ _ hji]
      exact h3.2.2

theorem wpTail_take {i : Nat} {oi : Oper} {v : Value} {n : Nat} {listed : Array Bool} {a : Act} {w : World} (hi : ops[i]? = some oi)
    (hs : Region.noSelect ops = true) (hf : Region.free md ops listed i = true) (hr : (Region.ready md ops listed).contains i = true) (hti : tl i = false) (hwt : waitsB md ops tl i = true)
    (hQ : ∀ c a w, Q (.panic c) (a.put oi.dst v) w → Q (.panic c) a w) (hy : YieldsIf P ops S oi v a) (hS : S w)
    (h : wpTail P md ops Q S tl n (listed.setIfInBounds i true) (a.put oi.dst v) w) : wpTail P md ops Q S tl (n + 1) listed a w :=
  wpTail.first hi (Region.noSelect_spec hs) hQ hti hwt n listed a w (Region.free_spec hi hf) (by simpa using hr) hy hS h

theorem qTk {oi : Oper} {v : Value} {n : Nat} {listed : Array Bool} {a : Act} {w : World} (i : Nat) (hi : ops[i]? = some oi) (hy : YieldsIf P ops S oi v a)
    (h : wpTail P md ops Q S tl n (listed.setIfInBounds i true) (a.put oi.dst v) w)
    (hs : Region.noSelect ops = true := by kernel_rfl) (hf : Region.free md ops listed i = true := by kernel_rfl) (hr : (Region.ready md ops listed).contains i = true := by kernel_rfl) (hti : tl i = false := by rfl) (hwt : waitsB md ops tl i = true := by kernel_rfl)
    (hQ : ∀ c a w, Q (.panic c) (a.put oi.dst v) w → Q (.panic c) a w := by exact fun _ _ _ h => h) (hS : S w := by assumption) :
    wpTail P md ops Q S tl (n + 1) listed a w := wpTail_take hi hs hf hr hti hwt hQ hy hS h
/-- an operation that the condition need not outlast comes up, and no other can -/
theorem wpTail_last {i : Nat} {o : Oper} {n : Nat} {listed : Array Bool} {a : Act} {w : World} (hr : Region.ready md ops listed = [i]) (ho : ops[i]? = some o) (ht : tl i = true)
    (h : ∀ K' : Act → World → Prop, Shut (∀ a w, wpTail P md ops Q S tl n (listed.setIfInBounds i true) a w → K' a w) → if Region.wanted o (yielded ops a.tmps) = true then Oper.wp P o a w K' Q else K' (a.put o.dst undef) w) :
    wpTail P md ops Q S tl (n + 1) listed a w := by
  refine ⟨fun h0 => (by rw [h0] at hr; cases hr), ?_⟩
  rw [hr]
  intro j hj
  obtain rfl : j = i := by simpa using hj
  exact wpOp_step ho (fun K' hK => h K' (fun a w hW => hK a w ⟨(fun h => (by rw [ht] at h; cases h)), hW⟩))
theorem wpTail_done {listed : Array Bool} {a : Act} {w : World} (hr : Region.ready md ops listed = []) (h : Q .normal a w) : ∀ n, wpTail P md ops Q S tl n listed a w
  | 0 => ⟨hr, h⟩
  | _ + 1 => ⟨fun _ => h, by rw [hr]; simp⟩
theorem wp_region_tail {id : Nat} {a : Act} {w : World} (tl : Nat → Bool) (hm : P.follows .mixedOrders = true) (hS : S w.drew)
    (h : S w.drew → wpTail P .any ops Q S tl ops.size (Array.replicate ops.size false) a w.drew) : (Code.region id ops true).wp P Q a w :=
  wp_region_any hm (wpTail.any _ _ _ _ (h hS))
end
end Go.Proofs.Ytfbbnbpobojboaa

/- Words for walks: rows beside changed blocks, where elements lie, normal ranges. No condition. -/
namespace Go.Proofs.Ytfbbnbpobojboaa
open Go.RowKit
set_option linter.unusedVariables false
set_option maxRecDepth 100000

theorem Chg.frzO {lo hi : Nat} {w w' : World} (k : Chg lo hi w w') {b o : Nat} {f : Bool} (hd : b < lo ∨ hi ≤ b) (hb : b < w.heap.size) (hf : w.frozen? ⟨b, o, none⟩ = f) : w'.frozen? ⟨b, o, none⟩ = f :=
  (World.frozen?_of_block (a := ⟨b, o, none⟩) (k.block b hb hd)).trans hf
theorem OwnI.chgN {lo hi base g n c : Nat} {w w' : World} {xs : List Int} (h : OwnI w base (.slice (some ⟨g, 0, none⟩) n c) xs) (k : Chg lo hi w w') (hd : g < lo ∨ hi ≤ g) : OwnI w' base (.slice (some ⟨g, 0, none⟩) n c) xs := by
  refine ⟨h.1, ?_⟩
  rcases h.2 with ⟨h2, _⟩ | ⟨g', cap, cur, hv, hg, hh, r⟩
  · cases h2
  · cases hv
    exact .inr ⟨g, _, cur, rfl, hg, (k.block g (Array.getElem?_eq_some_iff.1 hh).1 hd).trans hh, r⟩
theorem OwnI.set {base g n c : Nat} {w : World} {xs : List Int} (h : OwnI w base (.slice (some ⟨g, 0, none⟩) n c) xs) (i : Nat) (x : Int) (hi : i < xs.length) : OwnI (w.setCell ⟨g, i, none⟩ (.int .i64 x)) base (.slice (some ⟨g, 0, none⟩) n c) (xs.set i x) := by
  have hn : n = xs.length := by
    rcases h.2 with ⟨h2, _⟩ | ⟨g', cap, cur, hv, _⟩
    · cases h2
    · cases hv; rfl
  subst hn
  unfold OwnI
  rw [List.length_set]
  exact own_set h i x hi
theorem OwnI.setD {base g n c : Nat} {w : World} {xs : List Int} (h : OwnI w base (.slice (some ⟨g, 0, none⟩) n c) xs) (i : Nat) (x : Int) (hi : i < xs.length) : OwnI (w.setCell ⟨g, i, none⟩ (.int .i64 x)).drew base (.slice (some ⟨g, 0, none⟩) n c) (xs.set i x) :=
  (OwnI.set h i x hi).ext (Ext.drew (Ext.refl _))
theorem OwnI.cell {base g n c : Nat} {w : World} {xs : List Int} (h : OwnI w base (.slice (some ⟨g, 0, none⟩) n c) xs) (i : Nat) (hi : i < xs.length) : w.cell? ⟨g, i, none⟩ = some (.int .i64 (xs.getD i 0)) ∧ w.frozen? ⟨g, i, none⟩ = false := by
  have hn : n = xs.length := by
    rcases h.2 with ⟨h2, _⟩ | ⟨g', cap, cur, hv, _⟩
    · cases h2
    · cases hv; rfl
  subst hn
  exact own_cell h i hi
theorem OwnI.len {base g n c : Nat} {w : World} {xs : List Int} (h : OwnI w base (.slice (some ⟨g, 0, none⟩) n c) xs) (hn : n ≤ 4194304 := by omega) : xs.length ≤ 4194304 := by
  rcases h.2 with ⟨h2, _⟩ | ⟨g', cap, cur, hv, _⟩
  · cases h2
  · cases hv; exact hn
theorem OwnI.any {base : Nat} {w : World} {v : Value} {xs : List Int} (h : OwnI w base v xs) : ∃ a n c, v = .slice a n c := by
  rcases h.2 with ⟨rfl, _⟩ | ⟨g', cap, cur, rfl, _⟩
  · exact ⟨_, _, _, rfl⟩
  · exact ⟨_, _, _, rfl⟩
theorem Ints.any {lo : Nat} {w : World} {v : Value} {xs : List Int} (h : Ints w lo v xs) : ∃ a n c, v = .slice a n c := by
  obtain ⟨a, c, rfl, _⟩ := h
  exact ⟨_, _, _, rfl⟩
theorem below_frz {B : Nat} {w w' : World} (h : Below B w w') {b o : Nat} {f : Bool} (hb : b < B) (hc : w.frozen? ⟨b, o, none⟩ = f) : w'.frozen? ⟨b, o, none⟩ = f :=
  (Below.frozen (p := ⟨b, o, none⟩) h hb).trans hc
/-- two rows of ints side by side -/
structure Two (B : Nat) (wr : World) (v1 v2 : Value) (xs ys : List Int) : Prop where
  o1 : OwnI wr B v1 xs
  o2 : OwnI wr B v2 ys
  sep : ∀ g, v1.ownBlock = some g → v2.ownBlock ≠ some g
  size : B ≤ wr.heap.size
theorem Two.nil {B : Nat} {w : World} (h : B ≤ w.heap.size) : Two B w (.slice none 0 0) (.slice none 0 0) [] [] := ⟨OwnI.nil _ _, OwnI.nil _ _, (fun g h => (by cases h)), h⟩
theorem Two.ext {B : Nat} {w w' : World} {v1 v2 : Value} {xs ys : List Int} (h : Two B w v1 v2 xs ys) (hx : Ext w w') : Two B w' v1 v2 xs ys := ⟨h.o1.ext hx, h.o2.ext hx, h.sep, Nat.le_trans h.size hx.size⟩
theorem Two.chg {B lo hi : Nat} {w w' : World} {v1 v2 : Value} {xs ys : List Int} (h : Two B w v1 v2 xs ys) (k : Chg lo hi w w') (hb : hi ≤ B) : Two B w' v1 v2 xs ys := ⟨h.o1.chg k hb, h.o2.chg k hb, h.sep, Nat.le_trans h.size k.size⟩
theorem own_lt {B : Nat} {w : World} {v : Value} {xs : List Int} (h : OwnI w B v xs) {g : Nat} (hg : v.ownBlock = some g) : B ≤ g ∧ g < w.heap.size := by
  rcases h.2 with ⟨rfl, _⟩ | ⟨g', cap, cur, rfl, hb, hh, _⟩
  · cases hg
  · cases hg; exact ⟨hb, (Array.getElem?_eq_some_iff.1 hh).1⟩
end Go.Proofs.Ytfbbnbpobojboaa

/- Walks: cutDim of the reference. -/
namespace Go.Proofs.Ytfbbnbpobojboaa
open Go.RowKit
set_option linter.unusedVariables false
set_option maxRecDepth 100000


theorem PView.own {w w' : World} {base : Int} {shape strides : List Int} {v1 v2 : Value} (o1 : OwnZ w' w.heap.size v1 shape) (o2 : OwnZ w' w.heap.size v2 strides) (hd : shape ≠ [] → strides ≠ [] → v1.ownBlock ≠ v2.ownBlock) (l1 : shape.length ≤ 4194304) (l2 : strides.length ≤ 4194304) (hx : Ext w w') :
    PView w base shape strides (.returned (.agg #[.int .i64 base, v1, v2])) w' := ⟨v1, v2, rfl, o1.ints l1, o2.ints l2, o1, o2, hd, hx⟩

end Go.Proofs.Ytfbbnbpobojboaa

/- Walks: SliceDim and FlipDim of the reference. -/
namespace Go.Proofs.Ytfbbnbpobojboaa
open Go.RowKit
set_option linter.unusedVariables false
set_option maxRecDepth 100000


/-- a view with a bool -/
abbrev VBool := Int × List Int × List Int × Bool
def PVB (w : World) (x : VBool) : Ending → World → Prop := PViewB w x.1 x.2.1 x.2.2.1 x.2.2.2
def noV : VBool := (0, [], [], false)
theorem PVB.no {w w' : World} {x : VBool} (h : x = noV) (hx : Ext w w') : PVB w x (.returned (.tuple #[.agg #[.int .i64 0, .slice none 0 0, .slice none 0 0], .bool false])) w' := by
  subst h; exact PViewB.no hx
theorem PVB.yes {w w' : World} {x : VBool} {b : Int} {s t : List Int} {v1 v2 : Value} (h : x = (b, s, t, true)) (o1 : OwnZ w' w.heap.size v1 s) (o2 : OwnZ w' w.heap.size v2 t) (hd : s ≠ [] → t ≠ [] → v1.ownBlock ≠ v2.ownBlock) (l1 : s.length ≤ 4194304) (l2 : t.length ≤ 4194304) (hx : Ext w w') :
    PVB w x (.returned (.tuple #[.agg #[.int .i64 b, v1, v2], .bool true])) w' := by
  subst h; exact ⟨v1, v2, rfl, o1.ints l1, o2.ints l2, o1, o2, hd, hx⟩

end Go.Proofs.Ytfbbnbpobojboaa

/- Walks: permuted of the reference. -/
namespace Go.Proofs.Ytfbbnbpobojboaa
open Go.RowKit
set_option linter.unusedVariables false
set_option maxRecDepth 100000

end Go.Proofs.Ytfbbnbpobojboaa

/- Walks: insert of the reference. -/
namespace Go.Proofs.Ytfbbnbpobojboaa
open Go.RowKit
set_option linter.unusedVariables false
set_option maxRecDepth 100000

end Go.Proofs.Ytfbbnbpobojboaa

/- Walks: made, PermuteDims, FlipDim, AddDim and WindowsOf of the reference. -/
namespace Go.Proofs.Ytfbbnbpobojboaa
open Go.RowKit
set_option linter.unusedVariables false
set_option maxRecDepth 100000


theorem PVB.any {w w' : World} {x : VBool} {b : Int} {s t : List Int} {ok : Bool} {v1 v2 : Value} (h : x = (b, s, t, ok)) (o1 : OwnZ w' w.heap.size v1 s) (o2 : OwnZ w' w.heap.size v2 t) (hd : s ≠ [] → t ≠ [] → v1.ownBlock ≠ v2.ownBlock) (l1 : s.length ≤ 4194304) (l2 : t.length ≤ 4194304) (hx : Ext w w') :
    PVB w x (.returned (.tuple #[.agg #[.int .i64 b, v1, v2], .bool ok])) w' := by
  subst h; exact ⟨v1, v2, rfl, o1.ints l1, o2.ints l2, o1, o2, hd, hx⟩
/-- the view of a VBool: as many strides as extents, no more than four -/
def VBool.fit (x : VBool) : Prop := x.2.2.1.length = x.2.1.length ∧ x.2.1.length ≤ 4
end Go.Proofs.Ytfbbnbpobojboaa

/- Words for walks: an owned row with one element more. No condition. -/
namespace Go.Proofs.Ytfbbnbpobojboaa
open Go.RowKit
set_option linter.unusedVariables false
set_option maxRecDepth 100000

end Go.Proofs.Ytfbbnbpobojboaa

/- Walks: WindowsOf of the reference. -/
namespace Go.Proofs.Ytfbbnbpobojboaa
open Go.RowKit
set_option linter.unusedVariables false
set_option maxRecDepth 100000

end Go.Proofs.Ytfbbnbpobojboaa

/- Walks: drawn ranges and slices. -/
namespace Go.Proofs.Ytfbbnbpobojboaa
open Go.RowKit
set_option linter.unusedVariables false
set_option maxRecDepth 100000

end Go.Proofs.Ytfbbnbpobojboaa

/- Walks: drawn slices. -/
namespace Go.Proofs.Ytfbbnbpobojboaa
open Go.RowKit
set_option linter.unusedVariables false
set_option maxRecDepth 100000

/-- a slice at a block -/
def SlAt (w : World) (g : Nat) : Prop := ∃ (F T B : Int) (hf ht : Bool), w.cell? ⟨g, 0, none⟩ = some (.int .i64 F) ∧ w.cell? ⟨g, 1, none⟩ = some (.int .i64 T) ∧ w.cell? ⟨g, 2, none⟩ = some (.int .i64 B) ∧ w.cell? ⟨g, 3, none⟩ = some (.bool hf) ∧ w.cell? ⟨g, 4, none⟩ = some (.bool ht) ∧
  w.frozen? ⟨g, 0, none⟩ = false ∧ w.frozen? ⟨g, 1, none⟩ = false ∧ w.frozen? ⟨g, 2, none⟩ = false ∧ w.frozen? ⟨g, 3, none⟩ = false ∧ w.frozen? ⟨g, 4, none⟩ = false
theorem SlAt.lt {w : World} {g : Nat} (h : SlAt w g) : g < w.heap.size := by obtain ⟨F, T, B, hf, ht, h, _⟩ := h; exact qB h

end Go.Proofs.Ytfbbnbpobojboaa

/- Walks: drawn shapes. -/
namespace Go.Proofs.Ytfbbnbpobojboaa
open Go.RowKit
set_option linter.unusedVariables false
set_option maxRecDepth 100000

theorem Below.chg {B : Nat} {a b : World} (h : Below B a b) : Chg B a.heap.size a b :=
  ⟨h.os, h.tape, h.output, h.size, fun k hk hd => by
    rcases hd with hd | hd
    · exact h.block k hd
    · omega⟩
theorem Rd.below {B : Nat} {a b : World} {rb k : Nat} (h : Rd a rb k) (hb : Below B a b) (hl : rb < B) : Rd b rb k := h.chgO (Below.chg hb) hl
theorem Rch.below {rb : Nat} {w a b : World} (h : Chg rb (rb + 1) w a) (hb : Below w.heap.size a b) : Chg rb (rb + 1) w b :=
  ⟨hb.os.trans h.os, hb.tape.trans h.tape, hb.output.trans h.output, Nat.le_trans h.size hb.size, fun k hk hd => (hb.block k hk).trans (h.block k hk hd)⟩

end Go.Proofs.Ytfbbnbpobojboaa

/- Words for drawn views: a view in a block, with rows of its own. No condition. -/
namespace Go.Proofs.Ytfbbnbpobojboaa
open Go.RowKit
set_option linter.unusedVariables false
set_option maxRecDepth 100000

/-- a view lies in block g; its rows are the call's own, from block B on, not g -/
structure VAt (B g : Nat) (w : World) (b : Int) (u v : Value) (s t : List Int) : Prop where
  c0 : w.cell? ⟨g, 0, none⟩ = some (.int .i64 b)
  c1 : w.cell? ⟨g, 1, none⟩ = some u
  c2 : w.cell? ⟨g, 2, none⟩ = some v
  f0 : w.frozen? ⟨g, 0, none⟩ = false
  f1 : w.frozen? ⟨g, 1, none⟩ = false
  f2 : w.frozen? ⟨g, 2, none⟩ = false
  o1 : OwnZ w B u s
  o2 : OwnZ w B v t
  sep : s ≠ [] → t ≠ [] → u.ownBlock ≠ v.ownBlock
  n1 : s ≠ [] → u.ownBlock ≠ some g
  n2 : t ≠ [] → v.ownBlock ≠ some g
  fit : t.length = s.length
  le : s.length ≤ 4
section
variable {B g rb lo hi : Nat} {w w' : World} {b : Int} {u v : Value} {s t : List Int}
theorem VAt.lt (h : VAt B g w b u v s t) : g < w.heap.size := qB h.c0
theorem VAt.ext (h : VAt B g w b u v s t) (x : Ext w w') : VAt B g w' b u v s t :=
  ⟨x.cell h.c0, x.cell h.c1, x.cell h.c2, x.frz h.lt h.f0, x.frz h.lt h.f1, x.frz h.lt h.f2, h.o1.ext x, h.o2.ext x, h.sep, h.n1, h.n2, h.fit, h.le⟩
/-- another block has turned, behind the rows and the view -/
theorem VAt.chgB (h : VAt B g w b u v s t) (k : Chg lo hi w w') (hg : g < lo) (h1 : s ≠ [] → ∀ q, u.ownBlock = some q → q < lo) (h2 : t ≠ [] → ∀ q, v.ownBlock = some q → q < lo) : VAt B g w' b u v s t :=
  ⟨k.cell (by omega) h.c0, k.cell (by omega) h.c1, k.cell (by omega) h.c2, k.frzO (by omega) h.lt h.f0, k.frzO (by omega) h.lt h.f1, k.frzO (by omega) h.lt h.f2, h.o1.chgB k h1, h.o2.chgB k h2, h.sep, h.n1, h.n2, h.fit, h.le⟩
/-- another block has turned, ahead of the rows, not the view's -/
theorem VAt.chg (h : VAt B g w b u v s t) (k : Chg lo hi w w') (hg : g < lo ∨ hi ≤ g) (hb : hi ≤ B) : VAt B g w' b u v s t :=
  ⟨k.cell hg h.c0, k.cell hg h.c1, k.cell hg h.c2, k.frzO hg h.lt h.f0, k.frzO hg h.lt h.f1, k.frzO hg h.lt h.f2, h.o1.chg k hb, h.o2.chg k hb, h.sep, h.n1, h.n2, h.fit, h.le⟩
theorem VAt.lower (h : VAt B g w b u v s t) {B' : Nat} (hb : B' ≤ B) : VAt B' g w b u v s t := ⟨h.c0, h.c1, h.c2, h.f0, h.f1, h.f2, h.o1.lower hb, h.o2.lower hb, h.sep, h.n1, h.n2, h.fit, h.le⟩
theorem VAt.new (b : Int) (o1 : OwnZ w B u s) (o2 : OwnZ w B v t) (hs : s ≠ [] → t ≠ [] → u.ownBlock ≠ v.ownBlock) (hf : t.length = s.length) (hl : s.length ≤ 4) : VAt B w.heap.size (w.alloc (.cells #[.int .i64 b, u, v] 36)) b u v s t :=
  ⟨by simp, by simp, by simp, by simp, by simp, by simp, o1.ext ((Ext.refl w).alloc _), o2.ext ((Ext.refl w).alloc _), hs, (fun h e => by have := o1.bound h _ e; omega), (fun h e => by have := o2.bound h _ e; omega), hf, hl⟩
end
/-- a view is stored into a block that lies ahead of its rows -/
theorem VAt.put {B g : Nat} {w : World} {b b0 : Int} {u v u0 v0 : Value} {s t : List Int} (c0 : w.cell? ⟨g, 0, none⟩ = some (.int .i64 b0)) (c1 : w.cell? ⟨g, 1, none⟩ = some u0) (c2 : w.cell? ⟨g, 2, none⟩ = some v0)
    (f0 : w.frozen? ⟨g, 0, none⟩ = false) (f1 : w.frozen? ⟨g, 1, none⟩ = false) (f2 : w.frozen? ⟨g, 2, none⟩ = false) (o1 : OwnZ w B u s) (o2 : OwnZ w B v t) (hs : s ≠ [] → t ≠ [] → u.ownBlock ≠ v.ownBlock) (hf : t.length = s.length) (hl : s.length ≤ 4) (hg : g < B) :
    VAt B g (((w.setCell ⟨g, 0, none⟩ (.int .i64 b)).setCell ⟨g, 1, none⟩ u).setCell ⟨g, 2, none⟩ v) b u v s t := by
  have k := Chg.three (lo := g) w (.int .i64 b) u v
  have m1 : s ≠ [] → u.ownBlock ≠ some g := fun h e => by obtain ⟨q, e2, h2, _⟩ := o1.lt h; rw [e2] at e; cases e; omega
  have m2 : t ≠ [] → v.ownBlock ≠ some g := fun h e => by obtain ⟨q, e2, h2, _⟩ := o2.lt h; rw [e2] at e; cases e; omega
  exact ⟨by go_simp, by go_simp, by go_simp, by go_simp, by go_simp, by go_simp, o1.chg k (by omega), o2.chg k (by omega), hs, m1, m2, hf, hl⟩

/-- a view that is told to be one has a dimension -/
def VBool.live (x : VBool) : Prop := x.2.2.2 = true → x.2.1 ≠ []
/-- a call hands back a view with a bool: as many strides as extents, no more than four -/
def PFit (w : World) (e : Ending) (w' : World) : Prop :=
  ∃ (b : Int) (s t : List Int) (ok : Bool) (p1 p2 : Option Addr) (n1 r1 n2 r2 : Nat), e = .returned (.tuple #[.agg #[.int .i64 b, .slice p1 n1 r1, .slice p2 n2 r2], .bool ok]) ∧ OwnZ w' w.heap.size (.slice p1 n1 r1) s ∧ OwnZ w' w.heap.size (.slice p2 n2 r2) t ∧
    (s ≠ [] → t ≠ [] → (Value.slice p1 n1 r1).ownBlock ≠ (Value.slice p2 n2 r2).ownBlock) ∧ t.length = s.length ∧ (s.length ≤ 4 ∧ (ok = true → s ≠ [])) ∧ Ext w w'
theorem PFit.of {w w' : World} {e : Ending} {x : VBool} (h : PVB w x e w') (hf : x.fit) (hv : x.live) : PFit w e w' := by
  obtain ⟨b, s, t, ok⟩ := x
  obtain ⟨sh, st, rfl, -, -, o1, o2, od, xx⟩ := h
  obtain ⟨p1, n1, r1, rfl⟩ := o1.form
  obtain ⟨p2, n2, r2, rfl⟩ := o2.form
  exact ⟨b, s, t, ok, p1, p2, n1, r1, n2, r2, rfl, o1, o2, od, hf.1, ⟨hf.2, hv⟩, xx⟩
theorem OwnZ.setRow {B g n c d : Nat} {w : World} {xs : List Int} (h : OwnZ w B (.slice (some ⟨g, 0, none⟩) n c) xs) (hd : d < xs.length) (x : Int) : OwnZ (w.setCell ⟨g, d, none⟩ (.int .i64 x)) B (.slice (some ⟨g, 0, none⟩) n c) (xs.set d x) :=
  .inr ((h.ofNe (by intro h; subst h; simp at hd)).set d x hd)
/-- the state behind the choice of the next view -/
def NextAt (rb q gn gv : Nat) (w : World) (b : Int) (u v : Value) (s t : List Int) (ok : Value) (wx : World) : Prop :=
  ∃ (o : Bool) (b' : Int) (s' t' : List Int) (p1 p2 : Option Addr) (m1 r1 m2 r2 : Nat), ok = .bool o ∧ (o = true → s' ≠ []) ∧ VAt (gn + 1) gn wx b' (.slice p1 m1 r1) (.slice p2 m2 r2) s' t' ∧ VAt (w.heap.size + 1) gv wx b u v s t ∧
    VAt (w.heap.size + 1) w.heap.size wx 0 (.slice none 0 0) (.slice none 0 0) [] [] ∧ Rd wx rb (q + 20) ∧ Rch rb w wx
theorem NextAt.put {rb q gn gv B0 B m1 r1 m2 r2 : Nat} {w w12 : World} {b bn b' : Int} {u v un vn : Value} {p1 p2 : Option Addr} {s t sn tn s' t' : List Int} (o : Bool) (VN : VAt B0 gn w12 bn un vn sn tn) (V : VAt (w.heap.size + 1) gv w12 b u v s t)
    (Q : VAt (w.heap.size + 1) w.heap.size w12 0 (.slice none 0 0) (.slice none 0 0) [] []) (hr : Rd w12 rb (q + 20)) (X : Rch rb w w12) (h1 : rb < w.heap.size) (h2 : w.heap.size < gv) (h3 : gv < gn)
    (hb1 : s ≠ [] → ∀ g, u.ownBlock = some g → g < gn) (hb2 : t ≠ [] → ∀ g, v.ownBlock = some g → g < gn) (o1 : OwnZ w12 B (.slice p1 m1 r1) s') (o2 : OwnZ w12 B (.slice p2 m2 r2) t') (hs : s' ≠ [] → t' ≠ [] → (Value.slice p1 m1 r1).ownBlock ≠ (Value.slice p2 m2 r2).ownBlock) (hf : t'.length = s'.length) (hl : s'.length ≤ 4 ∧ (o = true → s' ≠ [])) (hB : gn < B) :
    NextAt rb q gn gv w b u v s t (.bool o) (((w12.setCell ⟨gn, 0, none⟩ (.int .i64 b')).setCell ⟨gn, 1, none⟩ (.slice p1 m1 r1)).setCell ⟨gn, 2, none⟩ (.slice p2 m2 r2)) :=
  ⟨o, b', s', t', p1, p2, m1, r1, m2, r2, rfl, hl.2, VAt.put VN.c0 VN.c1 VN.c2 VN.f0 VN.f1 VN.f2 (o1.lower hB) (o2.lower hB) hs hf hl.1 (Nat.lt_succ_self _), V.chgB (Chg.three w12 _ _ _) h3 hb1 hb2,
    Q.chgB (Chg.three w12 _ _ _) (by omega) (fun h => absurd rfl h) (fun h => absurd rfl h),
    Rd.set2 (show rb < gn by omega) (Rd.set2 (show rb < gn by omega) (Rd.set2 (show rb < gn by omega) hr)),
    ((X.set (show w.heap.size ≤ gn by omega) _).set (show w.heap.size ≤ gn by omega) _).set (show w.heap.size ≤ gn by omega) _⟩

end Go.Proofs.Ytfbbnbpobojboaa

/- Walks: ValidView, FitsIn, BoundsOf. -/
namespace Go.Proofs.Ytfbbnbpobojboaa
open Go.RowKit
set_option linter.unusedVariables false
set_option maxRecDepth 100000


theorem areCells_c (x : Int) (w : World) : Calls Try.prog 88 #[.int .i64 x] w fun e w' => e = .returned (.bool (inB 0 60 x)) ∧ w = w' := by
  by_cases h : 0 ≤ x
  · go_enter Try.func88, Try.ntmps88
    go_wp2_with fail
    go_ret
    exact ⟨by simp [inB, h], rfl⟩
  · have h' : x < 0 := by omega
    go_enter Try.func88, Try.ntmps88
    go_wp2_with fail
    go_ret
    exact ⟨by simp [inB]; intro; omega, rfl⟩
end Go.Proofs.Ytfbbnbpobojboaa

/- Words for memory: slices of exports that read as lists. No condition. -/
namespace Go.Proofs.Ytfbbnbpobojboaa
open Go.RowKit
set_option linter.unusedVariables false
set_option maxRecDepth 100000

/-- an export: its parent, the base, the shape and the strides of its view, and whether it is open -/
structure Exp where
  par : Int
  b : Int
  s : List Int
  t : List Int
  op : Bool
def noE : Exp := ⟨0, 0, [], [], false⟩
/-- the export number i -/
def expAt (es : List Exp) (i : Nat) : Exp := es.getD i noE
theorem expAt_get {es : List Exp} {i : Nat} (h : i < es.length) : expAt es i = es[i] := by unfold expAt; simp [h]

/-- the slice value v reads as the exports es; its cells, and those of their views, lie in blocks from lo on -/
def Exps (w : World) (lo : Nat) (v : Value) (es : List Exp) : Prop :=
  ∃ a cap, v = .slice a es.length cap ∧ es.length ≤ cap ∧ cap ≤ maxLen ∧ (es.length ≤ 1048576 ∧ (a = none → cap = 0)) ∧
    ∀ i, i < es.length → ∃ bl off u1 c1 u2 c2, a = some ⟨bl, off, none⟩ ∧ lo ≤ bl ∧
      w.cell? ⟨bl, off + i * 5, none⟩ = some (.int .i64 (expAt es i).par) ∧ w.cell? ⟨bl, off + i * 5 + 1, none⟩ = some (.int .i64 (expAt es i).b) ∧
      w.cell? ⟨bl, off + i * 5 + 2, none⟩ = some (.slice u1 (expAt es i).s.length c1) ∧ w.cell? ⟨bl, off + i * 5 + 3, none⟩ = some (.slice u2 (expAt es i).t.length c2) ∧
      w.cell? ⟨bl, off + i * 5 + 4, none⟩ = some (.bool (expAt es i).op) ∧ Ints w lo (.slice u1 (expAt es i).s.length c1) (expAt es i).s ∧ Ints w lo (.slice u2 (expAt es i).t.length c2) (expAt es i).t
section
variable {w w' : World} {lo lo' : Nat} {v : Value} {es : List Exp}
theorem Exps.ext (h : Exps w lo v es) (hx : Ext w w') : Exps w' lo v es := by
  obtain ⟨a, cap, hv, h1, h2, h3, h4⟩ := h
  refine ⟨a, cap, hv, h1, h2, h3, fun i hi => ?_⟩
  obtain ⟨bl, off, u1, c1, u2, c2, ha, hl, k0, k1, k2, k3, k4, i1, i2⟩ := h4 i hi
  exact ⟨bl, off, u1, c1, u2, c2, ha, hl, hx.cell k0, hx.cell k1, hx.cell k2, hx.cell k3, hx.cell k4, i1.ext hx, i2.ext hx⟩
theorem Exps.lower (h : Exps w lo v es) (hl : lo' ≤ lo) : Exps w lo' v es := by
  obtain ⟨a, cap, hv, h1, h2, h3, h4⟩ := h
  refine ⟨a, cap, hv, h1, h2, h3, fun i hi => ?_⟩
  obtain ⟨bl, off, u1, c1, u2, c2, ha, hb, k0, k1, k2, k3, k4, i1, i2⟩ := h4 i hi
  exact ⟨bl, off, u1, c1, u2, c2, ha, by omega, k0, k1, k2, k3, k4, i1.lower hl, i2.lower hl⟩
theorem Exps.chg {l h' : Nat} (h : Exps w lo v es) (k : Chg l h' w w') (hb : h' ≤ lo) : Exps w' lo v es := by
  obtain ⟨a, cap, hv, h1, h2, h3, h4⟩ := h
  refine ⟨a, cap, hv, h1, h2, h3, fun i hi => ?_⟩
  obtain ⟨bl, off, u1, c1, u2, c2, ha, hb', k0, k1, k2, k3, k4, i1, i2⟩ := h4 i hi
  exact ⟨bl, off, u1, c1, u2, c2, ha, hb', k.cell (.inr (by omega)) k0, k.cell (.inr (by omega)) k1, k.cell (.inr (by omega)) k2, k.cell (.inr (by omega)) k3, k.cell (.inr (by omega)) k4, i1.chg k hb, i2.chg k hb⟩
theorem Exps.form (h : Exps w lo v es) : ∃ a c, v = .slice a es.length c := by obtain ⟨a, cap, rfl, _⟩ := h; exact ⟨_, _, rfl⟩
theorem Exps.len (h : Exps w lo v es) : es.length ≤ 1048576 := by obtain ⟨_, _, _, _, _, ⟨h, _⟩, _⟩ := h; exact h
theorem Exps.nil (w : World) (lo : Nat) : Exps w lo (.slice none 0 0) [] := ⟨none, 0, rfl, by simp, by simp, ⟨by simp, fun _ => rfl⟩, fun i hi => absurd hi (by simp)⟩
/-- the cells of one export -/
theorem Exps.at {a : Option Addr} {n c : Nat} (h : Exps w lo (.slice a n c) es) (i : Nat) (hi : i < es.length) : ∃ bl off u1 c1 u2 c2, a = some ⟨bl, off, none⟩ ∧
      w.cell? ⟨bl, off + i * 5, none⟩ = some (.int .i64 (expAt es i).par) ∧ w.cell? ⟨bl, off + i * 5 + 1, none⟩ = some (.int .i64 (expAt es i).b) ∧
      w.cell? ⟨bl, off + i * 5 + 2, none⟩ = some (.slice u1 (expAt es i).s.length c1) ∧ w.cell? ⟨bl, off + i * 5 + 3, none⟩ = some (.slice u2 (expAt es i).t.length c2) ∧
      w.cell? ⟨bl, off + i * 5 + 4, none⟩ = some (.bool (expAt es i).op) ∧ Ints w lo (.slice u1 (expAt es i).s.length c1) (expAt es i).s ∧ Ints w lo (.slice u2 (expAt es i).t.length c2) (expAt es i).t := by
  obtain ⟨a', cap, hv, h1, h2, h3, h4⟩ := h
  cases hv
  obtain ⟨bl, off, u1, c1, u2, c2, ha, hb, k⟩ := h4 i hi
  exact ⟨bl, off, u1, c1, u2, c2, ha, k⟩
end
/-- is the export number i valid? -/
def expB (cells : List Int) (es : List Exp) (i : Nat) : Bool :=
  (inB (-1) ((i : Int) - 1) (expAt es i).par && viewB (expAt es i).b (expAt es i).s (expAt es i).t) &&
    (!(expAt es i).op || (fitB (expAt es i).b (expAt es i).s (expAt es i).t cells.length && (decide ((expAt es i).par < 0) || (expAt es (expAt es i).par.toNat).op)))
/-- are the first k exports valid? -/
def expsB (cells : List Int) (es : List Exp) (k : Nat) : Bool := (List.range k).all fun i => expB cells es i
theorem expsB_succ (cells : List Int) (es : List Exp) (k : Nat) : expsB cells es (k+1) = (expsB cells es k && expB cells es k) := by unfold expsB; rw [List.range_succ, List.all_append]; simp
theorem expsB_no {cells : List Int} {es : List Exp} {k n : Nat} (h : k < n) (hk : expB cells es k = false) : expsB cells es n = false := by
  unfold expsB
  rw [Bool.eq_false_iff]
  intro h2
  rw [List.all_eq_true] at h2
  have := h2 k (List.mem_range.2 h)
  rw [hk] at this; cases this
/-- is a buffer valid? -/
def bufB (cells : List Int) (es : List Exp) : Bool := (memB cells && decide (es.length ≤ 8)) && expsB cells es es.length
end Go.Proofs.Ytfbbnbpobojboaa

/- Helpers of walks: capacities, two rows that grow. -/
namespace Go.Proofs.Ytfbbnbpobojboaa
open Go.RowKit
set_option linter.unusedVariables false

theorem PViewB.two {w w' : World} {B : Nat} {b : Int} {s t : List Int} {v1 v2 : Value} (T : Two B w' v1 v2 s t) (hB : w.heap.size ≤ B) (hs : s.length ≤ 1000) (ht : t.length ≤ 1000) (hx : Ext w w') :
    PViewB w b s t true (.returned (.tuple #[.agg #[.int .i64 b, v1, v2], .bool true])) w' :=
  ⟨_, _, rfl, (T.o1.ints (by omega)).lower hB, (T.o2.ints (by omega)).lower hB, (T.o1.lower hB).z, (T.o2.lower hB).z,
    (fun n1 n2 h => by obtain ⟨g, _, h1, _⟩ := (T.o1).row n1; rw [h1] at h; exact T.sep g (by rw [h1]; rfl) (h ▸ rfl)), hx⟩
theorem pi_eq {w w0 : World} {xs ys : List Int} {f : Nat} {args : Array Value} (he : xs = ys) (h : Calls Try.prog f args w (PInts w0 xs)) : Calls Try.prog f args w (PInts w0 ys) := he ▸ h
end Go.Proofs.Ytfbbnbpobojboaa

/- Helpers of walks: appends to a literal without room, whatever is appended. -/
namespace Go.Proofs.Ytfbbnbpobojboaa
open Go.RowKit
set_option linter.unusedVariables false
section
variable {w : World} {src : Value} {ys : List Int} {lo B l : Nat}
theorem run_app0O (ty : TypeId) (O : OwnI w B (.slice (some ⟨l, 0, none⟩) 0 0) []) (hB : B ≤ w.heap.size) (hs : Ints w lo src ys) :
    ∃ g r w', (Builtin.append_ #[22, 22] ty #[.slice (some ⟨l, 0, none⟩) 0 0, src]).run Try.prog w = .ok (.slice (some ⟨g, 0, none⟩) ys.length r) w' ∧ OwnI w' B (.slice (some ⟨g, 0, none⟩) ys.length r) ys ∧ Ext w w' ∧ (g = l ∨ w.heap.size ≤ g) ∧ g < w'.heap.size := by
  obtain ⟨v', w', hr, h1, h2, h3⟩ := run_app0 ⟨l, 0, none⟩ ty hs
  by_cases he : ys = []
  · subst he
    have hs' := hs
    obtain ⟨i0, hi, hz0, hz1, hz2⟩ := info_parts infoInt
    obtain ⟨a, cap, rfl, h1, h2, ⟨h3', h3⟩, h4⟩ := hs
    refine ⟨l, 0, w, ?_, O, Ext.refl _, .inl rfl, (own_lt O rfl).2⟩
    cases a with
    | none => simp [Builtin.append_, run_underlying Try.underlying22, sizeOf, typeInfo, hi, Builtin.lenOf, Builtin.firstCells, storeCells]
    | some x => simp [Builtin.append_, run_underlying Try.underlying22, sizeOf, typeInfo, hi, Builtin.lenOf, Builtin.firstCells, storeCells, loadCells, loadCellsFrom]
  · have O' := (h1.ofNe he)
    obtain ⟨g, r, rfl, hg, hg'⟩ := O'.row he
    exact ⟨g, r, w', hr, O'.lower hB, h2, .inr hg, hg'⟩

theorem step_app0O {ops : Array Oper} {o : Oper} {a : Act} {K : Act → World → Prop} {Q : Exit → Act → World → Prop} {F : Prop} (hgd : o.guard = none) (s x : Operand)
    (ho : o.op = .call { callee := .builtin .append, args := #[s, x], argTypes := #[22, 22] })
    (hs : a.eval s = .slice (some ⟨l, 0, none⟩) 0 0) (hx : a.eval x = src) (O : OwnI w B (.slice (some ⟨l, 0, none⟩) 0 0) []) (hB : B ≤ w.heap.size) (hsrc : Ints w lo src ys)
    (hK : ∀ g r w', OwnI w' B (.slice (some ⟨g, 0, none⟩) ys.length r) ys → Ext w w' → (g = l ∨ w.heap.size ≤ g) → g < w'.heap.size → K (a.put o.dst (.slice (some ⟨g, 0, none⟩) ys.length r)) w') :
    if Region.wanted o (yielded ops a.tmps) = true then Oper.wp Try.prog o a w K Q else F := by
  have hw : Region.wanted o (yielded ops a.tmps) = true := by simp [Region.wanted, hgd]
  rw [if_pos hw]
  obtain ⟨g, r, w', hr, h1, h2, h3, h4⟩ := run_app0O o.type O hB hsrc
  unfold Oper.wp execOp
  simp only [ho, resolve, invoke, builtin, Sem.run_bind, Sem.run_pure, Result.andThen_ok, List.map_toArray, List.map_cons, List.map_nil, hs, hx, hr]
  exact hK g r w' h1 h2 h3 h4
theorem wpList_app0O {ops : Array Oper} {rest : List Oper} {o : Oper} {a : Act} {Q : Exit → Act → World → Prop} (hgd : o.guard = none) (s x : Operand)
    (ho : o.op = .call { callee := .builtin .append, args := #[s, x], argTypes := #[22, 22] })
    (hs : a.eval s = .slice (some ⟨l, 0, none⟩) 0 0) (hx : a.eval x = src) (O : OwnI w B (.slice (some ⟨l, 0, none⟩) 0 0) []) (hB : B ≤ w.heap.size) (hsrc : Ints w lo src ys)
    (hK : ∀ g r w', OwnI w' B (.slice (some ⟨g, 0, none⟩) ys.length r) ys → Ext w w' → (g = l ∨ w.heap.size ≤ g) → g < w'.heap.size → wpList Try.prog ops Q rest (a.put o.dst (.slice (some ⟨g, 0, none⟩) ys.length r)) w') : wpList Try.prog ops Q (o :: rest) a w := by
  refine wpList_plain hgd fun K hK' => ?_
  obtain ⟨g, r, w', hr, h1, h2, h3, h4⟩ := run_app0O o.type O hB hsrc
  unfold Oper.wp execOp
  simp only [ho, resolve, invoke, builtin, Sem.run_bind, Sem.run_pure, Result.andThen_ok, List.map_toArray, List.map_cons, List.map_nil, hs, hx, hr]
  exact hK' _ _ (hK g r w' h1 h2 h3 h4)
end
/-- a call hands back a row of its own -/
def PIntsO (w : World) (xs : List Int) (e : Ending) (w' : World) : Prop := ∃ g r, e = .returned (.slice (some ⟨g, 0, none⟩) xs.length r) ∧ OwnI w' w.heap.size (.slice (some ⟨g, 0, none⟩) xs.length r) xs ∧ w.heap.size ≤ g ∧ g < w'.heap.size ∧ Ext w w'
end Go.Proofs.Ytfbbnbpobojboaa

/- Walks: copies of views that are rows. -/
namespace Go.Proofs.Ytfbbnbpobojboaa
open Go.RowKit
set_option linter.unusedVariables false
set_option maxRecDepth 100000

def PViewO (w : World) (b : Int) (s t : List Int) (e : Ending) (w' : World) : Prop := ∃ g1 g2 r1 r2, e = .returned (.agg #[.int .i64 b, .slice (some ⟨g1, 0, none⟩) s.length r1, .slice (some ⟨g2, 0, none⟩) t.length r2]) ∧ OwnI w' w.heap.size (.slice (some ⟨g1, 0, none⟩) s.length r1) s ∧ OwnI w' w.heap.size (.slice (some ⟨g2, 0, none⟩) t.length r2) t ∧ w.heap.size ≤ g1 ∧ g1 < w'.heap.size ∧ w.heap.size ≤ g2 ∧ g2 < w'.heap.size ∧ g1 ≠ g2 ∧ Ext w w'
set_option maxHeartbeats 1600000 in
theorem copyViewO_c (b1 : Int) (u1 v1 : Value) (s1 t1 : List Int) (w : World) (l1 m1 : Nat) (h1 : Ints w l1 u1 s1) (k1 : Ints w m1 v1 t1) :
  Calls Try.prog 70 #[.agg #[.int .i64 b1, u1, v1]] w (PViewO w b1 s1 t1) := by
 obtain ⟨p0, c0, rfl⟩ := h1.form
 obtain ⟨p1, c1, rfl⟩ := k1.form
 go_enter Try.func70, Try.ntmps70
 go_wp2_with fail
 generalize hW1 : (w.alloc (.cells #[.int .i64 b1, .slice p0 s1.length c0, .slice p1 t1.length c1] 36)).alloc (.cells #[.int .i64 0, .slice none 0 0, .slice none 0 0] 36) = w1 at *
 have Lw1 : Ext w w1 := by subst hW1; exact qXt
 have Xw1 : Ext w w1 := by subst hW1; exact Lw1
 have b10 : w1.cell? ⟨w.heap.size, 0, none⟩ = some (.int .i64 b1) := by subst hW1; exact qCl
 have b11 : w1.cell? ⟨w.heap.size, 1, none⟩ = some (.slice p0 s1.length c0) := by subst hW1; exact qCl
 have b12 : w1.cell? ⟨w.heap.size, 2, none⟩ = some (.slice p1 t1.length c1) := by subst hW1; exact qCl
 have b20 : w1.cell? ⟨w.heap.size + 1, 0, none⟩ = some (.int .i64 0) := by subst hW1; exact qCl
 have b21 : w1.cell? ⟨w.heap.size + 1, 1, none⟩ = some (.slice none 0 0) := by subst hW1; exact qCl
 have b22 : w1.cell? ⟨w.heap.size + 1, 2, none⟩ = some (.slice none 0 0) := by subst hW1; exact qCl
 have f_b20 : w1.frozen? ⟨w.heap.size + 1, 0, none⟩ = false := by subst hW1; exact qFz
 have f_b21 : w1.frozen? ⟨w.heap.size + 1, 1, none⟩ = false := by subst hW1; exact qFz
 have f_b22 : w1.frozen? ⟨w.heap.size + 1, 2, none⟩ = false := by subst hW1; exact qFz
 have z_b1 : w.heap.size < w1.heap.size := qB b10
 have z_b2 : w.heap.size + 1 < w1.heap.size := qB b20
 have s_w1 : w.heap.size ≤ w1.heap.size := Xw1.size
 clear hW1
 have Q3_b10 := Lib.hid b10
 have Q3_b11 := Lib.hid b11
 have Q3_b12 := Lib.hid b12
 have Q3_zb1 := z_b1
 have Q3_b20 := Lib.hid b20
 have Q3_f_b20 := Lib.hid f_b20
 have Q3_b21 := Lib.hid b21
 have Q3_f_b21 := Lib.hid f_b21
 have Q3_b22 := Lib.hid b22
 have Q3_f_b22 := Lib.hid f_b22
 have Q3_zb2 := z_b2
 have BL4 : Ext w1 w1 := Ext.refl _
 go_cut [] (fun  wx => ∃ (g5 : Nat) (r5 : Nat) (g9 : Nat) (r9 : Nat), Chg (w.heap.size + 1) (w.heap.size + 1 + 1) w1 wx ∧ w1.heap.size ≤ g5 ∧ g5 < wx.heap.size ∧ w1.heap.size ≤ g9 ∧ g9 < wx.heap.size ∧ g5 ≠ g9 ∧ OwnI wx w1.heap.size (.slice (some ⟨g5, 0, none⟩) s1.length r5) s1 ∧ OwnI wx w1.heap.size (.slice (some ⟨g9, 0, none⟩) t1.length r9) t1 ∧ wx.cell? ⟨w.heap.size + 1, 0, none⟩ = some (.int .i64 b1) ∧ wx.frozen? ⟨w.heap.size + 1, 0, none⟩ = false ∧ wx.cell? ⟨w.heap.size + 1, 1, none⟩ = some (.slice (some ⟨g5, 0, none⟩) s1.length r5) ∧ wx.frozen? ⟨w.heap.size + 1, 1, none⟩ = false ∧ wx.cell? ⟨w.heap.size + 1, 2, none⟩ = some (.slice (some ⟨g9, 0, none⟩) t1.length r9) ∧ wx.frozen? ⟨w.heap.size + 1, 2, none⟩ = false)
 case first =>
  have X1 : Ext w1 w1 := Ext.refl _
  refine wp_region_held_drew (S := fun w' => w'.cell? ⟨w.heap.size, 0, none⟩ = some (.int .i64 b1) ∧ w'.cell? ⟨w.heap.size, 1, none⟩ = some (.slice p0 s1.length c0) ∧ w'.cell? ⟨w.heap.size, 2, none⟩ = some (.slice p1 t1.length c1)) qKr ⟨b10, b11, b12⟩ (fun hHeld => ?_)
  refine qHk (v := ?_) 0 rfl (.inl ⟨by rfl, ?_⟩) ?_
  rotate_left
  ·
   (intro w hSw; (try dsimp only at hSw); go_simp; try with_reducible rfl)
  try simp only [Act.put, qa, qb, qc, qD, qE, qF]
  refine qHk (v := ?_) 1 rfl (.inl ⟨by rfl, ?_⟩) ?_
  rotate_left
  ·
   (intro w hSw; (try dsimp only at hSw); go_simp; try with_reducible rfl)
  try simp only [Act.put, qa, qb, qc, qD, qE, qF]
  refine qHk (v := ?_) 3 rfl (.inl ⟨by rfl, ?_⟩) ?_
  rotate_left
  ·
   (intro w hSw; (try dsimp only at hSw); go_simp; try with_reducible rfl)
  try simp only [Act.put, qa, qb, qc, qD, qE, qF]
  refine qHk (v := ?_) 4 rfl (.inl ⟨by rfl, ?_⟩) ?_
  rotate_left
  ·
   (intro w hSw; (try dsimp only at hSw); go_simp; try with_reducible rfl)
  try simp only [Act.put, qa, qb, qc, qD, qE, qF]
  refine qHk (v := ?_) 7 rfl (.inl ⟨by rfl, ?_⟩) ?_
  rotate_left
  ·
   (intro w hSw; (try dsimp only at hSw); go_simp; try with_reducible rfl)
  try simp only [Act.put, qa, qb, qc, qD, qE, qF]
  refine qHk (v := ?_) 8 rfl (.inl ⟨by rfl, ?_⟩) ?_
  rotate_left
  ·
   (intro w hSw; (try dsimp only at hSw); go_simp; try with_reducible rfl)
  try simp only [Act.put, qa, qb, qc, qD, qE, qF]
  refine wpAnyH_ready (rs := [2, 6]) qKr (by simp) ?_
  refine AllReadyH.cons rfl (fun K hK => ?_) (AllReadyH.cons rfl (fun K hK => ?_) AllReadyH.nil)
  ·
   try simp only [Act.put, qa, qb, qc, qD, qE, qF]
   go_simp
   refine hK.out _ (w1.drew.alloc (.cells #[] 3)) ⟨(show Ext w1 (w1.drew.alloc (.cells #[] 3)) from qXt).cell b10, (show Ext w1 (w1.drew.alloc (.cells #[] 3)) from qXt).cell b11, (show Ext w1 (w1.drew.alloc (.cells #[] 3)) from qXt).cell b12⟩ (fun hHeld => ?_)
   clear hK K
   try simp only [Act.put, qa, qb, qc, qD, qE, qF]
   generalize hW2 : w1.drew.alloc (.cells #[] 3) = w1_1 at *
   have S_w1_1 : w1.heap.size < w1_1.heap.size := by subst hW2; simp
   have hx7 : Ext w1 w1_1 := by subst hW2; exact qXt
   replace X1 := X1.trans hx7
   clear hx7
   have O1_2 : OwnI w1_1 w1.heap.size (.slice (some ⟨w1.heap.size, 0, none⟩) 0 0) [] := by subst hW2; exact OwnI.lit0 _ _ (by simp)
   have Yw1_1 := Ext.refl w1_1
   clear hW2
   refine wpAnyH_ready (rs := [5, 6]) qKr (by simp) ?_
   refine AllReadyH.cons rfl (fun K hK => ?_) (AllReadyH.cons rfl (fun K hK => ?_) AllReadyH.nil)
   ·
    refine step_app0O rfl (.tmp 5) (.tmp 7) rfl rfl rfl (O1_2.ext Yw1_1) (by omega) (by exact ((h1.ext Xw1).ext (show Ext w1 w1_1 from qXt))) ?_
    intro g1_6 r1_7 w1_3 O1_4 x1_5 Eg1_6 Hg1_6
    have S_w1_3 : w1_1.heap.size ≤ w1_3.heap.size := x1_5.size
    replace Yw1_1 := Yw1_1.trans x1_5
    replace X1 := X1.trans x1_5
    have Yw1_3 := Ext.refl w1_3
    clear x1_5
    refine hK.out _ w1_3 ⟨(show Ext w1 w1_3 from qXt).cell b10, (show Ext w1 w1_3 from qXt).cell b11, (show Ext w1 w1_3 from qXt).cell b12⟩ (fun hHeld => ?_)
    clear hK K
    try simp only [Act.put, qa, qb, qc, qD, qE, qF]
    refine qHr 6 rfl (fun K hK => ?_)
    try simp only [Act.put, qa, qb, qc, qD, qE, qF]
    go_simp
    refine hK.out _ (w1_3.alloc (.cells #[] 3)) ⟨(show Ext w1 (w1_3.alloc (.cells #[] 3)) from qXt).cell b10, (show Ext w1 (w1_3.alloc (.cells #[] 3)) from qXt).cell b11, (show Ext w1 (w1_3.alloc (.cells #[] 3)) from qXt).cell b12⟩ (fun hHeld => ?_)
    clear hK K
    try simp only [Act.put, qa, qb, qc, qD, qE, qF]
    generalize hW3 : w1_3.alloc (.cells #[] 3) = w1_8 at *
    have S_w1_8 : w1_3.heap.size < w1_8.heap.size := by subst hW3; simp
    have hx7 : Ext w1_3 w1_8 := by subst hW3; exact qXt
    replace Yw1_3 := Yw1_3.trans hx7
    replace X1 := X1.trans hx7
    clear hx7
    have O1_9 : OwnI w1_8 w1_3.heap.size (.slice (some ⟨w1_3.heap.size, 0, none⟩) 0 0) [] := by subst hW3; exact OwnI.lit0 _ _ (by simp)
    have Yw1_8 := Ext.refl w1_8
    clear hW3
    refine qHr 9 rfl (fun K hK => ?_)
    refine step_app0O rfl (.tmp 9) (.tmp 11) rfl rfl rfl (O1_9.ext Yw1_8) (by omega) (by exact ((k1.ext Xw1).ext (show Ext w1 w1_8 from qXt))) ?_
    intro g1_13 r1_14 w1_10 O1_11 x1_12 Eg1_13 Hg1_13
    have S_w1_10 : w1_8.heap.size ≤ w1_10.heap.size := x1_12.size
    replace Yw1_3 := Yw1_3.trans x1_12
    replace Yw1_8 := Yw1_8.trans x1_12
    replace X1 := X1.trans x1_12
    have Yw1_10 := Ext.refl w1_10
    clear x1_12
    refine hK.out _ w1_10 ⟨(show Ext w1 w1_10 from qXt).cell b10, (show Ext w1 w1_10 from qXt).cell b11, (show Ext w1 w1_10 from qXt).cell b12⟩ (fun hHeld => ?_)
    clear hK K
    try simp only [Act.put, qa, qb, qc, qD, qE, qF]
    refine qHk (v := ?_) 10 rfl (.inl ⟨by rfl, ?_⟩) ?_
    rotate_left
    ·
     (intro w hSw; (try dsimp only at hSw); go_simp; try with_reducible rfl)
    try simp only [Act.put, qa, qb, qc, qD, qE, qF]
    refine qHr 11 rfl (fun K hK => ?_)
    try simp only [Act.put, qa, qb, qc, qD, qE, qF]
    replace b20 := X1.cell b20
    replace f_b20 := X1.frz z_b2 f_b20
    replace b21 := X1.cell b21
    replace f_b21 := X1.frz z_b2 f_b21
    replace b22 := X1.cell b22
    replace f_b22 := X1.frz z_b2 f_b22
    go_simp
    have zz := X1.size
    have K1 : Chg (w.heap.size + 1) (w.heap.size + 1 + 1) w1_10 (((w1_10.setCell ⟨w.heap.size + 1, 0, none⟩ (.int .i64 b1)).setCell ⟨w.heap.size + 1, 1, none⟩ (.slice (some ⟨g1_6, 0, none⟩) s1.length r1_7)).setCell ⟨w.heap.size + 1, 2, none⟩ (.slice (some ⟨g1_13, 0, none⟩) t1.length r1_14)) := (Chg.setCell (p := ⟨w.heap.size + 1, 2, none⟩) (Chg.setCell (p := ⟨w.heap.size + 1, 1, none⟩) (Chg.setCell (p := ⟨w.heap.size + 1, 0, none⟩) (Chg.refl (w.heap.size + 1) ((w.heap.size + 1) + 1) w1_10) (Nat.le_refl _) (Nat.lt_succ_self _) _) (Nat.le_refl _) (Nat.lt_succ_self _) _) (Nat.le_refl _) (Nat.lt_succ_self _) _)
    have n_b20 : (((w1_10.setCell ⟨w.heap.size + 1, 0, none⟩ (.int .i64 b1)).setCell ⟨w.heap.size + 1, 1, none⟩ (.slice (some ⟨g1_6, 0, none⟩) s1.length r1_7)).setCell ⟨w.heap.size + 1, 2, none⟩ (.slice (some ⟨g1_13, 0, none⟩) t1.length r1_14)).cell? ⟨w.heap.size + 1, 0, none⟩ = some (.int .i64 b1) := by go_simp
    replace f_b20 : (((w1_10.setCell ⟨w.heap.size + 1, 0, none⟩ (.int .i64 b1)).setCell ⟨w.heap.size + 1, 1, none⟩ (.slice (some ⟨g1_6, 0, none⟩) s1.length r1_7)).setCell ⟨w.heap.size + 1, 2, none⟩ (.slice (some ⟨g1_13, 0, none⟩) t1.length r1_14)).frozen? ⟨w.heap.size + 1, 0, none⟩ = false := by go_simp
    have n_b21 : (((w1_10.setCell ⟨w.heap.size + 1, 0, none⟩ (.int .i64 b1)).setCell ⟨w.heap.size + 1, 1, none⟩ (.slice (some ⟨g1_6, 0, none⟩) s1.length r1_7)).setCell ⟨w.heap.size + 1, 2, none⟩ (.slice (some ⟨g1_13, 0, none⟩) t1.length r1_14)).cell? ⟨w.heap.size + 1, 1, none⟩ = some (.slice (some ⟨g1_6, 0, none⟩) s1.length r1_7) := by go_simp
    replace f_b21 : (((w1_10.setCell ⟨w.heap.size + 1, 0, none⟩ (.int .i64 b1)).setCell ⟨w.heap.size + 1, 1, none⟩ (.slice (some ⟨g1_6, 0, none⟩) s1.length r1_7)).setCell ⟨w.heap.size + 1, 2, none⟩ (.slice (some ⟨g1_13, 0, none⟩) t1.length r1_14)).frozen? ⟨w.heap.size + 1, 1, none⟩ = false := by go_simp
    have n_b22 : (((w1_10.setCell ⟨w.heap.size + 1, 0, none⟩ (.int .i64 b1)).setCell ⟨w.heap.size + 1, 1, none⟩ (.slice (some ⟨g1_6, 0, none⟩) s1.length r1_7)).setCell ⟨w.heap.size + 1, 2, none⟩ (.slice (some ⟨g1_13, 0, none⟩) t1.length r1_14)).cell? ⟨w.heap.size + 1, 2, none⟩ = some (.slice (some ⟨g1_13, 0, none⟩) t1.length r1_14) := by go_simp
    replace f_b22 : (((w1_10.setCell ⟨w.heap.size + 1, 0, none⟩ (.int .i64 b1)).setCell ⟨w.heap.size + 1, 1, none⟩ (.slice (some ⟨g1_6, 0, none⟩) s1.length r1_7)).setCell ⟨w.heap.size + 1, 2, none⟩ (.slice (some ⟨g1_13, 0, none⟩) t1.length r1_14)).frozen? ⟨w.heap.size + 1, 2, none⟩ = false := by go_simp
    replace O1_4 := (O1_4.ext Yw1_3).chgN K1 (by omega)
    replace O1_11 := (O1_11.ext Yw1_10).chgN K1 (by omega)
    have C1 : Chg (w.heap.size + 1) (w.heap.size + 1 + 1) w1 (((w1_10.setCell ⟨w.heap.size + 1, 0, none⟩ (.int .i64 b1)).setCell ⟨w.heap.size + 1, 1, none⟩ (.slice (some ⟨g1_6, 0, none⟩) s1.length r1_7)).setCell ⟨w.heap.size + 1, 2, none⟩ (.slice (some ⟨g1_13, 0, none⟩) t1.length r1_14)) := (Chg.of_ext X1).trans K1
    clear zz K1
    have S_st : w1_10.heap.size ≤ (((w1_10.setCell ⟨w.heap.size + 1, 0, none⟩ (.int .i64 b1)).setCell ⟨w.heap.size + 1, 1, none⟩ (.slice (some ⟨g1_6, 0, none⟩) s1.length r1_7)).setCell ⟨w.heap.size + 1, 2, none⟩ (.slice (some ⟨g1_13, 0, none⟩) t1.length r1_14)).heap.size := by simp
    refine hK.out _ ((((w1_10.setCell ⟨w.heap.size + 1, 0, none⟩ (.int .i64 b1)).setCell ⟨w.heap.size + 1, 1, none⟩ (.slice (some ⟨g1_6, 0, none⟩) s1.length r1_7)).setCell ⟨w.heap.size + 1, 2, none⟩ (.slice (some ⟨g1_13, 0, none⟩) t1.length r1_14))) ⟨C1.cell (by omega) b10, C1.cell (by omega) b11, C1.cell (by omega) b12⟩ (fun hHeld => ?_)
    clear hK K
    try simp only [Act.put, qa, qb, qc, qD, qE, qF]
    refine wpAnyH_done qKr ?_ _
    clear hHeld
    have zz := X1.size
    go_step
    go_step
    go_meet
    case rel => exact ⟨g1_6, r1_7, g1_13, r1_14, C1, (by omega), (by omega), (by omega), (by omega), (by omega), (O1_4).lower (by omega), (O1_11).lower (by omega), n_b20, f_b20, n_b21, f_b21, n_b22, f_b22⟩
   ·
    try simp only [Act.put, qa, qb, qc, qD, qE, qF]
    go_simp
    refine hK.out _ (w1_1.alloc (.cells #[] 3)) ⟨(show Ext w1 (w1_1.alloc (.cells #[] 3)) from qXt).cell b10, (show Ext w1 (w1_1.alloc (.cells #[] 3)) from qXt).cell b11, (show Ext w1 (w1_1.alloc (.cells #[] 3)) from qXt).cell b12⟩ (fun hHeld => ?_)
    clear hK K
    try simp only [Act.put, qa, qb, qc, qD, qE, qF]
    generalize hW4 : w1_1.alloc (.cells #[] 3) = w1_15 at *
    have S_w1_15 : w1_1.heap.size < w1_15.heap.size := by subst hW4; simp
    have hx7 : Ext w1_1 w1_15 := by subst hW4; exact qXt
    replace Yw1_1 := Yw1_1.trans hx7
    replace X1 := X1.trans hx7
    clear hx7
    have O1_16 : OwnI w1_15 w1_1.heap.size (.slice (some ⟨w1_1.heap.size, 0, none⟩) 0 0) [] := by subst hW4; exact OwnI.lit0 _ _ (by simp)
    have Yw1_15 := Ext.refl w1_15
    clear hW4
    refine qHr 5 rfl (fun K hK => ?_)
    refine step_app0O rfl (.tmp 5) (.tmp 7) rfl rfl rfl (O1_2.ext Yw1_1) (by omega) (by exact ((h1.ext Xw1).ext (show Ext w1 w1_15 from qXt))) ?_
    intro g1_20 r1_21 w1_17 O1_18 x1_19 Eg1_20 Hg1_20
    have S_w1_17 : w1_15.heap.size ≤ w1_17.heap.size := x1_19.size
    replace Yw1_1 := Yw1_1.trans x1_19
    replace Yw1_15 := Yw1_15.trans x1_19
    replace X1 := X1.trans x1_19
    have Yw1_17 := Ext.refl w1_17
    clear x1_19
    refine hK.out _ w1_17 ⟨(show Ext w1 w1_17 from qXt).cell b10, (show Ext w1 w1_17 from qXt).cell b11, (show Ext w1 w1_17 from qXt).cell b12⟩ (fun hHeld => ?_)
    clear hK K
    try simp only [Act.put, qa, qb, qc, qD, qE, qF]
    refine qHr 9 rfl (fun K hK => ?_)
    refine step_app0O rfl (.tmp 9) (.tmp 11) rfl rfl rfl (O1_16.ext Yw1_15) (by omega) (by exact ((k1.ext Xw1).ext (show Ext w1 w1_17 from qXt))) ?_
    intro g1_25 r1_26 w1_22 O1_23 x1_24 Eg1_25 Hg1_25
    have S_w1_22 : w1_17.heap.size ≤ w1_22.heap.size := x1_24.size
    replace Yw1_15 := Yw1_15.trans x1_24
    replace Yw1_17 := Yw1_17.trans x1_24
    replace X1 := X1.trans x1_24
    have Yw1_22 := Ext.refl w1_22
    clear x1_24
    refine hK.out _ w1_22 ⟨(show Ext w1 w1_22 from qXt).cell b10, (show Ext w1 w1_22 from qXt).cell b11, (show Ext w1 w1_22 from qXt).cell b12⟩ (fun hHeld => ?_)
    clear hK K
    try simp only [Act.put, qa, qb, qc, qD, qE, qF]
    refine qHk (v := ?_) 10 rfl (.inl ⟨by rfl, ?_⟩) ?_
    rotate_left
    ·
     (intro w hSw; (try dsimp only at hSw); go_simp; try with_reducible rfl)
    try simp only [Act.put, qa, qb, qc, qD, qE, qF]
    refine qHr 11 rfl (fun K hK => ?_)
    try simp only [Act.put, qa, qb, qc, qD, qE, qF]
    replace b20 := X1.cell b20
    replace f_b20 := X1.frz z_b2 f_b20
    replace b21 := X1.cell b21
    replace f_b21 := X1.frz z_b2 f_b21
    replace b22 := X1.cell b22
    replace f_b22 := X1.frz z_b2 f_b22
    go_simp
    have zz := X1.size
    have K1 : Chg (w.heap.size + 1) (w.heap.size + 1 + 1) w1_22 (((w1_22.setCell ⟨w.heap.size + 1, 0, none⟩ (.int .i64 b1)).setCell ⟨w.heap.size + 1, 1, none⟩ (.slice (some ⟨g1_20, 0, none⟩) s1.length r1_21)).setCell ⟨w.heap.size + 1, 2, none⟩ (.slice (some ⟨g1_25, 0, none⟩) t1.length r1_26)) := (Chg.setCell (p := ⟨w.heap.size + 1, 2, none⟩) (Chg.setCell (p := ⟨w.heap.size + 1, 1, none⟩) (Chg.setCell (p := ⟨w.heap.size + 1, 0, none⟩) (Chg.refl (w.heap.size + 1) ((w.heap.size + 1) + 1) w1_22) (Nat.le_refl _) (Nat.lt_succ_self _) _) (Nat.le_refl _) (Nat.lt_succ_self _) _) (Nat.le_refl _) (Nat.lt_succ_self _) _)
    have n_b20 : (((w1_22.setCell ⟨w.heap.size + 1, 0, none⟩ (.int .i64 b1)).setCell ⟨w.heap.size + 1, 1, none⟩ (.slice (some ⟨g1_20, 0, none⟩) s1.length r1_21)).setCell ⟨w.heap.size + 1, 2, none⟩ (.slice (some ⟨g1_25, 0, none⟩) t1.length r1_26)).cell? ⟨w.heap.size + 1, 0, none⟩ = some (.int .i64 b1) := by go_simp
    replace f_b20 : (((w1_22.setCell ⟨w.heap.size + 1, 0, none⟩ (.int .i64 b1)).setCell ⟨w.heap.size + 1, 1, none⟩ (.slice (some ⟨g1_20, 0, none⟩) s1.length r1_21)).setCell ⟨w.heap.size + 1, 2, none⟩ (.slice (some ⟨g1_25, 0, none⟩) t1.length r1_26)).frozen? ⟨w.heap.size + 1, 0, none⟩ = false := by go_simp
    have n_b21 : (((w1_22.setCell ⟨w.heap.size + 1, 0, none⟩ (.int .i64 b1)).setCell ⟨w.heap.size + 1, 1, none⟩ (.slice (some ⟨g1_20, 0, none⟩) s1.length r1_21)).setCell ⟨w.heap.size + 1, 2, none⟩ (.slice (some ⟨g1_25, 0, none⟩) t1.length r1_26)).cell? ⟨w.heap.size + 1, 1, none⟩ = some (.slice (some ⟨g1_20, 0, none⟩) s1.length r1_21) := by go_simp
    replace f_b21 : (((w1_22.setCell ⟨w.heap.size + 1, 0, none⟩ (.int .i64 b1)).setCell ⟨w.heap.size + 1, 1, none⟩ (.slice (some ⟨g1_20, 0, none⟩) s1.length r1_21)).setCell ⟨w.heap.size + 1, 2, none⟩ (.slice (some ⟨g1_25, 0, none⟩) t1.length r1_26)).frozen? ⟨w.heap.size + 1, 1, none⟩ = false := by go_simp
    have n_b22 : (((w1_22.setCell ⟨w.heap.size + 1, 0, none⟩ (.int .i64 b1)).setCell ⟨w.heap.size + 1, 1, none⟩ (.slice (some ⟨g1_20, 0, none⟩) s1.length r1_21)).setCell ⟨w.heap.size + 1, 2, none⟩ (.slice (some ⟨g1_25, 0, none⟩) t1.length r1_26)).cell? ⟨w.heap.size + 1, 2, none⟩ = some (.slice (some ⟨g1_25, 0, none⟩) t1.length r1_26) := by go_simp
    replace f_b22 : (((w1_22.setCell ⟨w.heap.size + 1, 0, none⟩ (.int .i64 b1)).setCell ⟨w.heap.size + 1, 1, none⟩ (.slice (some ⟨g1_20, 0, none⟩) s1.length r1_21)).setCell ⟨w.heap.size + 1, 2, none⟩ (.slice (some ⟨g1_25, 0, none⟩) t1.length r1_26)).frozen? ⟨w.heap.size + 1, 2, none⟩ = false := by go_simp
    replace O1_18 := (O1_18.ext Yw1_17).chgN K1 (by omega)
    replace O1_23 := (O1_23.ext Yw1_22).chgN K1 (by omega)
    have C1 : Chg (w.heap.size + 1) (w.heap.size + 1 + 1) w1 (((w1_22.setCell ⟨w.heap.size + 1, 0, none⟩ (.int .i64 b1)).setCell ⟨w.heap.size + 1, 1, none⟩ (.slice (some ⟨g1_20, 0, none⟩) s1.length r1_21)).setCell ⟨w.heap.size + 1, 2, none⟩ (.slice (some ⟨g1_25, 0, none⟩) t1.length r1_26)) := (Chg.of_ext X1).trans K1
    clear zz K1
    have S_st : w1_22.heap.size ≤ (((w1_22.setCell ⟨w.heap.size + 1, 0, none⟩ (.int .i64 b1)).setCell ⟨w.heap.size + 1, 1, none⟩ (.slice (some ⟨g1_20, 0, none⟩) s1.length r1_21)).setCell ⟨w.heap.size + 1, 2, none⟩ (.slice (some ⟨g1_25, 0, none⟩) t1.length r1_26)).heap.size := by simp
    refine hK.out _ ((((w1_22.setCell ⟨w.heap.size + 1, 0, none⟩ (.int .i64 b1)).setCell ⟨w.heap.size + 1, 1, none⟩ (.slice (some ⟨g1_20, 0, none⟩) s1.length r1_21)).setCell ⟨w.heap.size + 1, 2, none⟩ (.slice (some ⟨g1_25, 0, none⟩) t1.length r1_26))) ⟨C1.cell (by omega) b10, C1.cell (by omega) b11, C1.cell (by omega) b12⟩ (fun hHeld => ?_)
    clear hK K
    try simp only [Act.put, qa, qb, qc, qD, qE, qF]
    refine wpAnyH_done qKr ?_ _
    clear hHeld
    have zz := X1.size
    go_step
    go_step
    go_meet
    case rel => exact ⟨g1_20, r1_21, g1_25, r1_26, C1, (by omega), (by omega), (by omega), (by omega), (by omega), (O1_18).lower (by omega), (O1_23).lower (by omega), n_b20, f_b20, n_b21, f_b21, n_b22, f_b22⟩
  ·
   try simp only [Act.put, qa, qb, qc, qD, qE, qF]
   go_simp
   refine hK.out _ (w1.drew.alloc (.cells #[] 3)) ⟨(show Ext w1 (w1.drew.alloc (.cells #[] 3)) from qXt).cell b10, (show Ext w1 (w1.drew.alloc (.cells #[] 3)) from qXt).cell b11, (show Ext w1 (w1.drew.alloc (.cells #[] 3)) from qXt).cell b12⟩ (fun hHeld => ?_)
   clear hK K
   try simp only [Act.put, qa, qb, qc, qD, qE, qF]
   generalize hW5 : w1.drew.alloc (.cells #[] 3) = w1_27 at *
   have S_w1_27 : w1.heap.size < w1_27.heap.size := by subst hW5; simp
   have hx7 : Ext w1 w1_27 := by subst hW5; exact qXt
   replace X1 := X1.trans hx7
   clear hx7
   have O1_28 : OwnI w1_27 w1.heap.size (.slice (some ⟨w1.heap.size, 0, none⟩) 0 0) [] := by subst hW5; exact OwnI.lit0 _ _ (by simp)
   have Yw1_27 := Ext.refl w1_27
   clear hW5
   refine qHr 2 rfl (fun K hK => ?_)
   try simp only [Act.put, qa, qb, qc, qD, qE, qF]
   go_simp
   refine hK.out _ (w1_27.alloc (.cells #[] 3)) ⟨(show Ext w1 (w1_27.alloc (.cells #[] 3)) from qXt).cell b10, (show Ext w1 (w1_27.alloc (.cells #[] 3)) from qXt).cell b11, (show Ext w1 (w1_27.alloc (.cells #[] 3)) from qXt).cell b12⟩ (fun hHeld => ?_)
   clear hK K
   try simp only [Act.put, qa, qb, qc, qD, qE, qF]
   generalize hW6 : w1_27.alloc (.cells #[] 3) = w1_29 at *
   have S_w1_29 : w1_27.heap.size < w1_29.heap.size := by subst hW6; simp
   have hx7 : Ext w1_27 w1_29 := by subst hW6; exact qXt
   replace Yw1_27 := Yw1_27.trans hx7
   replace X1 := X1.trans hx7
   clear hx7
   have O1_30 : OwnI w1_29 w1_27.heap.size (.slice (some ⟨w1_27.heap.size, 0, none⟩) 0 0) [] := by subst hW6; exact OwnI.lit0 _ _ (by simp)
   have Yw1_29 := Ext.refl w1_29
   clear hW6
   refine qHr 5 rfl (fun K hK => ?_)
   refine step_app0O rfl (.tmp 5) (.tmp 7) rfl rfl rfl (O1_30.ext Yw1_29) (by omega) (by exact ((h1.ext Xw1).ext (show Ext w1 w1_29 from qXt))) ?_
   intro g1_34 r1_35 w1_31 O1_32 x1_33 Eg1_34 Hg1_34
   have S_w1_31 : w1_29.heap.size ≤ w1_31.heap.size := x1_33.size
   replace Yw1_27 := Yw1_27.trans x1_33
   replace Yw1_29 := Yw1_29.trans x1_33
   replace X1 := X1.trans x1_33
   have Yw1_31 := Ext.refl w1_31
   clear x1_33
   refine hK.out _ w1_31 ⟨(show Ext w1 w1_31 from qXt).cell b10, (show Ext w1 w1_31 from qXt).cell b11, (show Ext w1 w1_31 from qXt).cell b12⟩ (fun hHeld => ?_)
   clear hK K
   try simp only [Act.put, qa, qb, qc, qD, qE, qF]
   refine qHr 9 rfl (fun K hK => ?_)
   refine step_app0O rfl (.tmp 9) (.tmp 11) rfl rfl rfl (O1_28.ext Yw1_27) (by omega) (by exact ((k1.ext Xw1).ext (show Ext w1 w1_31 from qXt))) ?_
   intro g1_39 r1_40 w1_36 O1_37 x1_38 Eg1_39 Hg1_39
   have S_w1_36 : w1_31.heap.size ≤ w1_36.heap.size := x1_38.size
   replace Yw1_27 := Yw1_27.trans x1_38
   replace Yw1_31 := Yw1_31.trans x1_38
   replace X1 := X1.trans x1_38
   have Yw1_36 := Ext.refl w1_36
   clear x1_38
   refine hK.out _ w1_36 ⟨(show Ext w1 w1_36 from qXt).cell b10, (show Ext w1 w1_36 from qXt).cell b11, (show Ext w1 w1_36 from qXt).cell b12⟩ (fun hHeld => ?_)
   clear hK K
   try simp only [Act.put, qa, qb, qc, qD, qE, qF]
   refine qHk (v := ?_) 10 rfl (.inl ⟨by rfl, ?_⟩) ?_
   rotate_left
   ·
    (intro w hSw; (try dsimp only at hSw); go_simp; try with_reducible rfl)
   try simp only [Act.put, qa, qb, qc, qD, qE, qF]
   refine qHr 11 rfl (fun K hK => ?_)
   try simp only [Act.put, qa, qb, qc, qD, qE, qF]
   replace b20 := X1.cell b20
   replace f_b20 := X1.frz z_b2 f_b20
   replace b21 := X1.cell b21
   replace f_b21 := X1.frz z_b2 f_b21
   replace b22 := X1.cell b22
   replace f_b22 := X1.frz z_b2 f_b22
   go_simp
   have zz := X1.size
   have K1 : Chg (w.heap.size + 1) (w.heap.size + 1 + 1) w1_36 (((w1_36.setCell ⟨w.heap.size + 1, 0, none⟩ (.int .i64 b1)).setCell ⟨w.heap.size + 1, 1, none⟩ (.slice (some ⟨g1_34, 0, none⟩) s1.length r1_35)).setCell ⟨w.heap.size + 1, 2, none⟩ (.slice (some ⟨g1_39, 0, none⟩) t1.length r1_40)) := (Chg.setCell (p := ⟨w.heap.size + 1, 2, none⟩) (Chg.setCell (p := ⟨w.heap.size + 1, 1, none⟩) (Chg.setCell (p := ⟨w.heap.size + 1, 0, none⟩) (Chg.refl (w.heap.size + 1) ((w.heap.size + 1) + 1) w1_36) (Nat.le_refl _) (Nat.lt_succ_self _) _) (Nat.le_refl _) (Nat.lt_succ_self _) _) (Nat.le_refl _) (Nat.lt_succ_self _) _)
   have n_b20 : (((w1_36.setCell ⟨w.heap.size + 1, 0, none⟩ (.int .i64 b1)).setCell ⟨w.heap.size + 1, 1, none⟩ (.slice (some ⟨g1_34, 0, none⟩) s1.length r1_35)).setCell ⟨w.heap.size + 1, 2, none⟩ (.slice (some ⟨g1_39, 0, none⟩) t1.length r1_40)).cell? ⟨w.heap.size + 1, 0, none⟩ = some (.int .i64 b1) := by go_simp
   replace f_b20 : (((w1_36.setCell ⟨w.heap.size + 1, 0, none⟩ (.int .i64 b1)).setCell ⟨w.heap.size + 1, 1, none⟩ (.slice (some ⟨g1_34, 0, none⟩) s1.length r1_35)).setCell ⟨w.heap.size + 1, 2, none⟩ (.slice (some ⟨g1_39, 0, none⟩) t1.length r1_40)).frozen? ⟨w.heap.size + 1, 0, none⟩ = false := by go_simp
   have n_b21 : (((w1_36.setCell ⟨w.heap.size + 1, 0, none⟩ (.int .i64 b1)).setCell ⟨w.heap.size + 1, 1, none⟩ (.slice (some ⟨g1_34, 0, none⟩) s1.length r1_35)).setCell ⟨w.heap.size + 1, 2, none⟩ (.slice (some ⟨g1_39, 0, none⟩) t1.length r1_40)).cell? ⟨w.heap.size + 1, 1, none⟩ = some (.slice (some ⟨g1_34, 0, none⟩) s1.length r1_35) := by go_simp
   replace f_b21 : (((w1_36.setCell ⟨w.heap.size + 1, 0, none⟩ (.int .i64 b1)).setCell ⟨w.heap.size + 1, 1, none⟩ (.slice (some ⟨g1_34, 0, none⟩) s1.length r1_35)).setCell ⟨w.heap.size + 1, 2, none⟩ (.slice (some ⟨g1_39, 0, none⟩) t1.length r1_40)).frozen? ⟨w.heap.size + 1, 1, none⟩ = false := by go_simp
   have n_b22 : (((w1_36.setCell ⟨w.heap.size + 1, 0, none⟩ (.int .i64 b1)).setCell ⟨w.heap.size + 1, 1, none⟩ (.slice (some ⟨g1_34, 0, none⟩) s1.length r1_35)).setCell ⟨w.heap.size + 1, 2, none⟩ (.slice (some ⟨g1_39, 0, none⟩) t1.length r1_40)).cell? ⟨w.heap.size + 1, 2, none⟩ = some (.slice (some ⟨g1_39, 0, none⟩) t1.length r1_40) := by go_simp
   replace f_b22 : (((w1_36.setCell ⟨w.heap.size + 1, 0, none⟩ (.int .i64 b1)).setCell ⟨w.heap.size + 1, 1, none⟩ (.slice (some ⟨g1_34, 0, none⟩) s1.length r1_35)).setCell ⟨w.heap.size + 1, 2, none⟩ (.slice (some ⟨g1_39, 0, none⟩) t1.length r1_40)).frozen? ⟨w.heap.size + 1, 2, none⟩ = false := by go_simp
   replace O1_32 := (O1_32.ext Yw1_31).chgN K1 (by omega)
   replace O1_37 := (O1_37.ext Yw1_36).chgN K1 (by omega)
   have C1 : Chg (w.heap.size + 1) (w.heap.size + 1 + 1) w1 (((w1_36.setCell ⟨w.heap.size + 1, 0, none⟩ (.int .i64 b1)).setCell ⟨w.heap.size + 1, 1, none⟩ (.slice (some ⟨g1_34, 0, none⟩) s1.length r1_35)).setCell ⟨w.heap.size + 1, 2, none⟩ (.slice (some ⟨g1_39, 0, none⟩) t1.length r1_40)) := (Chg.of_ext X1).trans K1
   clear zz K1
   have S_st : w1_36.heap.size ≤ (((w1_36.setCell ⟨w.heap.size + 1, 0, none⟩ (.int .i64 b1)).setCell ⟨w.heap.size + 1, 1, none⟩ (.slice (some ⟨g1_34, 0, none⟩) s1.length r1_35)).setCell ⟨w.heap.size + 1, 2, none⟩ (.slice (some ⟨g1_39, 0, none⟩) t1.length r1_40)).heap.size := by simp
   refine hK.out _ ((((w1_36.setCell ⟨w.heap.size + 1, 0, none⟩ (.int .i64 b1)).setCell ⟨w.heap.size + 1, 1, none⟩ (.slice (some ⟨g1_34, 0, none⟩) s1.length r1_35)).setCell ⟨w.heap.size + 1, 2, none⟩ (.slice (some ⟨g1_39, 0, none⟩) t1.length r1_40))) ⟨C1.cell (by omega) b10, C1.cell (by omega) b11, C1.cell (by omega) b12⟩ (fun hHeld => ?_)
   clear hK K
   try simp only [Act.put, qa, qb, qc, qD, qE, qF]
   refine wpAnyH_done qKr ?_ _
   clear hHeld
   have zz := X1.size
   go_step
   go_step
   go_meet
   case rel => exact ⟨g1_34, r1_35, g1_39, r1_40, C1, (by omega), (by omega), (by omega), (by omega), (by omega), (O1_32).lower (by omega), (O1_37).lower (by omega), n_b20, f_b20, n_b21, f_b21, n_b22, f_b22⟩
 case rest =>
  generalize wc = wc5 at hcut ⊢
  obtain ⟨g7, r8, g9, r10, xx6, Gg7, Hg7, Gg9, Hg9, Dg7g9, O11, O12, N_b20, M_b20, N_b21, M_b21, N_b22, M_b22⟩ := hcut
  have zc_wc5 := xx6.size
  have Xwc5 : Ext w wc5 := Ext.chg Xw1 xx6 (by omega)
  replace b10 := xx6.cell (by omega) b10
  replace b11 := xx6.cell (by omega) b11
  replace b12 := xx6.cell (by omega) b12
  replace b20 := N_b20
  clear N_b20
  replace f_b20 := M_b20
  clear M_b20
  replace b21 := N_b21
  clear N_b21
  replace f_b21 := M_b21
  clear M_b21
  replace b22 := N_b22
  clear N_b22
  replace f_b22 := M_b22
  clear M_b22
  have z_b1 : w.heap.size < wc5.heap.size := qB b10
  have z_b2 : w.heap.size + 1 < wc5.heap.size := qB b20
  have s_wc5 : w.heap.size ≤ wc5.heap.size := Xwc5.size
  clear xx6
  go_wp2_with fail
  refine bodyPost_ret (v := .agg #[.int .i64 b1, .slice (some ⟨g7, 0, none⟩) s1.length r8, .slice (some ⟨g9, 0, none⟩) t1.length r10]) (by simp only [results, Try.results70]; go_simp) rfl ?_
  exact ⟨g7, g9, _, _, rfl, O11.lower (by omega), O12.lower (by omega), by omega, by omega, by omega, by omega, by omega, (Xwc5.trans qXt)⟩


end Go.Proofs.Ytfbbnbpobojboaa

/- Words for memory: exports in rows of their own. No condition. -/
namespace Go.Proofs.Ytfbbnbpobojboaa
open Go.RowKit
set_option linter.unusedVariables false
set_option maxRecDepth 100000

/-- the rows of exports: shapes at even places, strides at odd ones -/
def rowAt (es : List Exp) (p : Nat) : List Int := if p % 2 = 0 then (expAt es (p / 2)).s else (expAt es (p / 2)).t
theorem rowAt_even (es : List Exp) (i : Nat) : rowAt es (2 * i) = (expAt es i).s := by unfold rowAt; rw [if_pos (by omega)]; congr 2; omega
theorem rowAt_odd (es : List Exp) (i : Nat) : rowAt es (2 * i + 1) = (expAt es i).t := by unfold rowAt; rw [if_neg (by omega)]; congr 2; omega
theorem expAt_app1 {es : List Exp} {e : Exp} {i : Nat} (h : i < es.length) : expAt (es ++ [e]) i = expAt es i := by unfold expAt; rw [List.getD_eq_getElem?_getD, List.getElem?_append_left h, ← List.getD_eq_getElem?_getD]
theorem expAt_app2 (es : List Exp) (e : Exp) : expAt (es ++ [e]) es.length = e := by unfold expAt; simp
theorem rowAt_app {es : List Exp} {e : Exp} {p : Nat} (h : p < 2 * es.length) : rowAt (es ++ [e]) p = rowAt es p := by unfold rowAt; rw [expAt_app1 (by omega)]
theorem expAt_set (es : List Exp) (i : Nat) (e : Exp) (j : Nat) (hi : i < es.length) : expAt (es.set i e) j = if j = i then e else expAt es j := by
 unfold expAt
 by_cases h : j = i
 ·
  subst h; simp [hi]
 ·
  rw [if_neg h, List.getD_eq_getElem?_getD, List.getElem?_set_ne (by omega), ← List.getD_eq_getElem?_getD]
theorem take_expAt {es : List Exp} {k : Nat} (h : k < es.length) : es.take (k+1) = es.take k ++ [expAt es k] := by rw [List.take_succ_eq_append_getElem h, expAt_get h]
/-- the cells of an export -/
def eCells (e : Exp) (u v : Value) : List Value := [.int .i64 e.par, .int .i64 e.b, u, v, .bool e.op]
def cellsE (es : List Exp) (R : Nat → Value) : List (List Value) := (List.range es.length).map fun i => eCells (expAt es i) (R (2 * i)) (R (2 * i + 1))
theorem cellsE_len (es : List Exp) (R : Nat → Value) : (cellsE es R).length = es.length := by simp [cellsE]
theorem cellsE_get (es : List Exp) (R : Nat → Value) (i : Nat) (h : i < (cellsE es R).length) : (cellsE es R)[i] = eCells (expAt es i) (R (2 * i)) (R (2 * i + 1)) := by simp [cellsE]
abbrev TEXPORT : TypeId := 89
/-- exports in rows of their own -/
structure ExpR (w : World) (lo : Nat) (ev : Value) (es : List Exp) (R : Nat → Value) : Prop where
 row : OwnC w lo TEXPORT 5 ev (cellsE es R)
 nest : ∀ p, p < 2 * es.length → OwnZ w lo (R p) (rowAt es p)
 lens : ∀ p, p < 2 * es.length → (rowAt es p).length ≤ 4194304
 apart : ∀ p q, p < q → q < 2 * es.length → rowAt es p ≠ [] → rowAt es q ≠ [] → (R p).ownBlock ≠ (R q).ownBlock
 off : ∀ p, p < 2 * es.length → rowAt es p ≠ [] → (R p).ownBlock ≠ ev.ownBlock
section
variable {w w' W : World} {lo lo' : Nat} {ev : Value} {es : List Exp} {R : Nat → Value}
theorem ExpR.nil (w : World) (lo : Nat) (R : Nat → Value) : ExpR w lo (.slice none 0 0) [] R :=
 ⟨OwnC.nil, fun p h => by simp at h, fun p h => by simp at h, fun p q _ h => by simp at h, fun p h => by simp at h⟩
theorem ExpR.ext (h : ExpR w lo ev es R) (hx : Ext w w') : ExpR w' lo ev es R := ⟨h.row.ext hx, fun p hp => (h.nest p hp).ext hx, h.lens, h.apart, h.off⟩
theorem ExpR.lower (h : ExpR w lo ev es R) (hl : lo' ≤ lo) : ExpR w lo' ev es R := ⟨h.row.lower hl, fun p hp => (h.nest p hp).lower hl, h.lens, h.apart, h.off⟩
theorem ExpR.chg {l hi : Nat} (h : ExpR w lo ev es R) (k : Chg l hi w w') (hb : hi ≤ lo) : ExpR w' lo ev es R := ⟨h.row.chg k hb, fun p hp => (h.nest p hp).chg k hb, h.lens, h.apart, h.off⟩
theorem ExpR.len (h : ExpR w lo ev es R) : ∃ a c, ev = .slice a es.length c := by have := h.row.form; rw [cellsE_len] at this; exact this
/-- where the row lies -/
theorem own_block_lt {base E sz n : Nat} {v : Value} {xs : List Value} (h : w.ownsRow base E sz v n xs) (g : Nat) (hg : v.ownBlock = some g) : base ≤ g ∧ g < w.heap.size := World.ownsRow.lt h g hg
theorem ExpR.blk (h : ExpR w lo ev es R) (g : Nat) (hg : ev.ownBlock = some g) : lo ≤ g ∧ g < w.heap.size := own_block_lt h.row.1 g hg
theorem ExpR.nblk (h : ExpR w lo ev es R) (p : Nat) (hp : p < 2 * es.length) (hn : rowAt es p ≠ []) : ∃ g, (R p).ownBlock = some g ∧ lo ≤ g ∧ g < w.heap.size := (h.nest p hp).lt hn
theorem ExpR.big (h : ExpR w lo ev es R) (hn : es ≠ []) : ∃ g c, ev = .slice (some ⟨g, 0, none⟩) es.length c ∧ ev.ownBlock = some g ∧ lo ≤ g ∧ g < w.heap.size ∧ es.length ≤ c ∧ c ≤ maxLen := by
 have := h.row.lt (by intro h0; have := cellsE_len es R; rw [h0] at this; exact hn (List.eq_nil_of_length_eq_zero this.symm))
 rw [cellsE_len] at this
 exact this
/-- such exports can be read -/
theorem ExpR.exps (h : ExpR w lo ev es R) (hl : es.length ≤ 1048576) : Exps w lo ev es := by
 by_cases hn : es = []
 ·
  subst hn
  obtain ⟨hr, -⟩ := h.row
  rcases hr.2 with ⟨rfl, _⟩ | ⟨g, cap, cur, rfl, hb, hh, h1, h2, _⟩
  ·
   exact Exps.nil _ _
  ·
   exact ⟨_, cap, rfl, by simp, h2, ⟨by simp, fun h => by cases h⟩, fun i hi => absurd hi (by simp)⟩
 ·
  obtain ⟨g, c, rfl, hg, hb, hlt, hc, hm⟩ := h.big hn
  refine ⟨_, c, rfl, hc, hm, ⟨hl, fun h => by cases h⟩, fun i hi => ?_⟩
  have hr := h.row
  have e1 : (.slice (some ⟨g, 0, none⟩) es.length c : Value) = .slice (some ⟨g, 0, none⟩) (cellsE es R).length c := by rw [cellsE_len]
  rw [e1] at hr
  have hi' : i < (cellsE es R).length := by rw [cellsE_len]; exact hi
  have k := fun j (hj : j < 5) => (hr.cell i j hi' hj).1
  rw [cellsE_get] at k
  have i1 := (h.nest (2 * i) (by omega)).ints (h.lens _ (by omega))
  have i2 := (h.nest (2 * i + 1) (by omega)).ints (h.lens _ (by omega))
  rw [rowAt_even] at i1
  rw [rowAt_odd] at i2
  obtain ⟨u1, c1, e2⟩ := i1.form
  obtain ⟨u2, c2, e3⟩ := i2.form
  rw [e2] at i1
  rw [e3] at i2
  refine ⟨g, 0, u1, c1, u2, c2, rfl, hb, ?_, ?_, ?_, ?_, ?_, i1, i2⟩
  ·
   have := k 0 (by omega); rw [Nat.zero_add]; exact this
  ·
   have := k 1 (by omega); rw [Nat.zero_add]; exact this
  ·
   have := k 2 (by omega); rw [Nat.zero_add, ← e2]; exact this
  ·
   have := k 3 (by omega); rw [Nat.zero_add, ← e3]; exact this
  ·
   have := k 4 (by omega); rw [Nat.zero_add]; exact this
end
def extR (R : Nat → Value) (n : Nat) (u1 u2 : Value) (p : Nat) : Value := if p < 2 * n then R p else if p = 2 * n then u1 else u2
theorem extR_old {R : Nat → Value} {n : Nat} {u1 u2 : Value} {p : Nat} (h : p < 2 * n) : extR R n u1 u2 p = R p := by unfold extR; rw [if_pos h]
theorem extR_a {R : Nat → Value} {n : Nat} {u1 u2 : Value} : extR R n u1 u2 (2 * n) = u1 := by unfold extR; rw [if_neg (by omega), if_pos rfl]
theorem extR_b {R : Nat → Value} {n : Nat} {u1 u2 : Value} : extR R n u1 u2 (2 * n + 1) = u2 := by unfold extR; rw [if_neg (by omega), if_neg (by omega)]
section
variable {w w' W : World} {lo lo' : Nat} {ev : Value} {es : List Exp} {R : Nat → Value}
/-- one export more, with rows apart from the others -/
theorem ExpR.snocG {lo2 : Nat} {v' : Value} {e : Exp} {u1 u2 : Value} (h : ExpR W lo ev es R) (hl : lo2 ≤ lo) (o1 : OwnZ W lo2 u1 e.s) (o2 : OwnZ W lo2 u2 e.t) (l1 : e.s.length ≤ 4194304) (l2 : e.t.length ≤ 4194304)
  (hd : e.s ≠ [] → e.t ≠ [] → u1.ownBlock ≠ u2.ownBlock) (a1 : e.s ≠ [] → ∀ p, p < 2 * es.length → rowAt es p ≠ [] → (R p).ownBlock ≠ u1.ownBlock) (a2 : e.t ≠ [] → ∀ p, p < 2 * es.length → rowAt es p ≠ [] → (R p).ownBlock ≠ u2.ownBlock)
  (n1 : e.s ≠ [] → u1.ownBlock ≠ ev.ownBlock) (n2 : e.t ≠ [] → u2.ownBlock ≠ ev.ownBlock)
  (h1 : OwnC w' lo TEXPORT 5 v' (cellsE es R ++ [eCells e u1 u2])) (hg : W.grownBy w' ev.ownBlock) (hv : v'.ownBlock = ev.ownBlock ∨ v'.ownBlock = some W.heap.size) :
  ExpR w' lo2 v' (es ++ [e]) (extR R es.length u1 u2) := by
 have hpl : ∀ p, p < 2 * (es ++ [e]).length → p < 2 * es.length ∨ p = 2 * es.length ∨ p = 2 * es.length + 1 := fun p hp => by
  rw [List.length_append, List.length_singleton] at hp; omega
 have r1 : rowAt (es ++ [e]) (2 * es.length) = e.s := by rw [rowAt_even, expAt_app2]
 have r2 : rowAt (es ++ [e]) (2 * es.length + 1) = e.t := by rw [rowAt_odd, expAt_app2]
 have nv : ∀ (x : Value) (xs : List Int), OwnZ W lo2 x xs → xs ≠ [] → x.ownBlock ≠ ev.ownBlock → x.ownBlock ≠ v'.ownBlock := fun x xs ho hs hne he => by
  rcases hv with hv | hv
  ·
   exact hne (he.trans hv)
  ·
   obtain ⟨g, hg1, -, hlt⟩ := ho.lt hs
   rw [hg1, hv] at he
   have := Option.some.inj he
   omega
 refine ⟨?_, ?_, ?_, ?_, ?_⟩
 ·
  have : cellsE (es ++ [e]) (extR R es.length u1 u2) = cellsE es R ++ [eCells e u1 u2] := by
   unfold cellsE
   rw [List.length_append, List.length_singleton, List.range_succ, List.map_append]
   congr 1
   ·
    refine List.map_congr_left fun i hi => ?_
    have hi := List.mem_range.1 hi
    rw [expAt_app1 hi, extR_old (by omega), extR_old (by omega)]
   ·
    simp only [List.map_cons, List.map_nil]
    rw [expAt_app2, extR_a, extR_b]
  rw [this]; exact h1.lower hl
 ·
  intro p hp
  rcases hpl p hp with hp | rfl | rfl
  ·
   rw [extR_old hp, rowAt_app hp]
   exact ((h.nest p hp).lower hl).keptG (h.lens p hp) hg (fun hs => h.off p hp hs)
  ·
   rw [extR_a, r1]
   exact o1.keptG l1 hg n1
  ·
   rw [extR_b, r2]
   exact o2.keptG l2 hg n2
 ·
  intro p hp
  rcases hpl p hp with hp | rfl | rfl
  ·
   rw [rowAt_app hp]; exact h.lens p hp
  ·
   rw [r1]; exact l1
  ·
   rw [r2]; exact l2
 ·
  intro p q hpq hq
  have old : ∀ p, p < 2 * es.length → rowAt es p ≠ [] → (e.s ≠ [] → (R p).ownBlock ≠ u1.ownBlock) ∧ (e.t ≠ [] → (R p).ownBlock ≠ u2.ownBlock) := fun p hp hs => ⟨fun he => a1 he p hp hs, fun he => a2 he p hp hs⟩
  rcases hpl q hq with hq' | rfl | rfl
  ·
   rw [extR_old (by omega), extR_old hq', rowAt_app (by omega), rowAt_app hq']
   exact h.apart p q hpq hq'
  ·
   rw [extR_old hpq, extR_a, rowAt_app hpq, r1]
   exact fun hs he => (old p hpq hs).1 he
  ·
   rcases Nat.lt_or_ge p (2 * es.length) with hp | hp
   ·
    rw [extR_old hp, extR_b, rowAt_app hp, r2]
    exact fun hs he => (old p hp hs).2 he
   ·
    obtain rfl : p = 2 * es.length := by omega
    rw [extR_a, extR_b, r1, r2]
    exact hd
 ·
  intro p hp
  rcases hpl p hp with hp | rfl | rfl
  ·
   rw [extR_old hp, rowAt_app hp]
   exact fun hs => nv _ _ ((h.nest p hp).lower hl) hs (h.off p hp hs)
  ·
   rw [extR_a, r1]
   exact fun hs => nv _ _ o1 hs (n1 hs)
  ·
   rw [extR_b, r2]
   exact fun hs => nv _ _ o2 hs (n2 hs)
/-- one export more, with rows that came up later than all the others -/
theorem ExpR.snoc {w0 : World} {v' : Value} {e : Exp} {u1 u2 : Value} (h0 : ExpR w0 lo ev es R) (hx : Ext w0 W) (o1 : OwnZ W lo u1 e.s) (o2 : OwnZ W lo u2 e.t) (l1 : e.s.length ≤ 4194304) (l2 : e.t.length ≤ 4194304)
  (hd : e.s ≠ [] → e.t ≠ [] → u1.ownBlock ≠ u2.ownBlock) (m1 : e.s ≠ [] → ∀ g, u1.ownBlock = some g → w0.heap.size ≤ g) (m2 : e.t ≠ [] → ∀ g, u2.ownBlock = some g → w0.heap.size ≤ g)
  (h1 : OwnC w' lo TEXPORT 5 v' (cellsE es R ++ [eCells e u1 u2])) (hg : W.grownBy w' ev.ownBlock) (hv : v'.ownBlock = ev.ownBlock ∨ v'.ownBlock = some W.heap.size) :
  ExpR w' lo v' (es ++ [e]) (extR R es.length u1 u2) := by
 refine (h0.ext hx).snocG (Nat.le_refl _) o1 o2 l1 l2 hd ?_ ?_ ?_ ?_ h1 hg hv
 ·
  intro he p hp hs h2
  obtain ⟨g, hg1, -, hlt⟩ := h0.nblk p hp hs
  have := m1 he g (by rw [← h2]; exact hg1); omega
 ·
  intro he p hp hs h2
  obtain ⟨g, hg1, -, hlt⟩ := h0.nblk p hp hs
  have := m2 he g (by rw [← h2]; exact hg1); omega
 ·
  intro hs he
  obtain ⟨g, hg1, -, -⟩ := o1.lt hs
  rw [hg1] at he
  have := (h0.blk g he.symm).2
  have := m1 hs g hg1
  omega
 ·
  intro hs he
  obtain ⟨g, hg1, -, -⟩ := o2.lt hs
  rw [hg1] at he
  have := (h0.blk g he.symm).2
  have := m2 hs g hg1
  omega
theorem cellsE_set (es : List Exp) (R : Nat → Value) (i : Nat) (hi : i < es.length) (e : Exp) : cellsE (es.set i e) R = (cellsE es R).set i (eCells e (R (2 * i)) (R (2 * i + 1))) := by
 refine List.ext_getElem (by rw [List.length_set, cellsE_len, cellsE_len, List.length_set]) fun j h1 h2 => ?_
 rw [cellsE_get, List.getElem_set, expAt_set es i e j hi]
 by_cases h : i = j
 ·
  subst h; rw [if_pos rfl, if_pos rfl]
 ·
  rw [if_neg (by omega), if_neg h, cellsE_get]
/-- a cell of an export (but its rows') is written -/
theorem ExpR.store {a c : Nat} (h : ExpR w lo (.slice (some ⟨a, 0, none⟩) es.length c) es R) (i j : Nat) (hi : i < es.length) (hj : j < 5) (x : Value) (e : Exp) (hs : e.s = (expAt es i).s) (ht : e.t = (expAt es i).t)
  (he : (eCells (expAt es i) (R (2 * i)) (R (2 * i + 1))).set j x = eCells e (R (2 * i)) (R (2 * i + 1))) : ExpR (w.setCell ⟨a, i * 5 + j, none⟩ x) lo (.slice (some ⟨a, 0, none⟩) es.length c) (es.set i e) R := by
 have hr := h.row
 have e1 : (.slice (some ⟨a, 0, none⟩) es.length c : Value) = .slice (some ⟨a, 0, none⟩) (cellsE es R).length c := by rw [cellsE_len]
 rw [e1] at hr
 have hi' : i < (cellsE es R).length := by rw [cellsE_len]; exact hi
 have h2 := hr.set i j hi' hj x
 rw [cellsE_get, he, ← cellsE_set es R i hi e] at h2
 rw [cellsE_len] at h2
 have hra : ∀ p, rowAt (es.set i e) p = rowAt es p := fun p => by
  unfold rowAt
  rw [expAt_set es i e _ hi]
  by_cases h : p / 2 = i
  ·
   rw [if_pos h, hs, ht, h]
  ·
   rw [if_neg h]
 have hk : Chg a (a + 1) w (w.setCell ⟨a, i * 5 + j, none⟩ x) := Chg.setCell (p := ⟨a, i * 5 + j, none⟩) (Chg.refl _ _ _) (Nat.le_refl _) (Nat.lt_succ_self _) x
 have hgr : w.grownBy (w.setCell ⟨a, i * 5 + j, none⟩ x) (some a) := ⟨hk.os, hk.tape, hk.output, hk.size, fun b hb hne => hk.block b hb (by
  rcases Nat.lt_or_ge b a with h | h
  ·
   exact .inl h
  ·
   exact .inr (by have : b ≠ a := fun h0 => hne (by rw [h0]); omega))⟩
 refine ⟨h2, ?_, ?_, ?_, ?_⟩
 ·
  intro p hp
  rw [List.length_set] at hp
  rw [hra]
  exact (h.nest p hp).keptG (h.lens p hp) hgr (fun hs => h.off p hp hs)
 ·
  intro p hp; rw [List.length_set] at hp; rw [hra]; exact h.lens p hp
 ·
  intro p q hpq hq; rw [List.length_set] at hq; rw [hra, hra]; exact h.apart p q hpq hq
 ·
  intro p hp; rw [List.length_set] at hp; rw [hra]; exact h.off p hp
/-- a row of an export is written -/
theorem ExpR.rowset (h : ExpR w lo ev es R) (i : Nat) (hi : i < es.length) (e : Exp) (o1 : OwnZ w' lo (R (2 * i)) e.s) (o2 : OwnZ w' lo (R (2 * i + 1)) e.t) (l1 : e.s.length = (expAt es i).s.length) (l2 : e.t.length = (expAt es i).t.length)
  (hp : e.par = (expAt es i).par) (hb : e.b = (expAt es i).b) (ho : e.op = (expAt es i).op) (q : Nat) (hq : q = 2 * i ∨ q = 2 * i + 1) (hn : rowAt es q ≠ []) (hg : w.grownBy w' (R q).ownBlock) : ExpR w' lo ev (es.set i e) R := by
 have hql : q < 2 * es.length := by omega
 have hne : ∀ p, p < 2 * es.length → p ≠ q → rowAt es p ≠ [] → (R p).ownBlock ≠ (R q).ownBlock := fun p hp hpq hs => by
  rcases Nat.lt_or_ge p q with h' | h'
  ·
   exact h.apart p q h' hql hs hn
  ·
   exact fun h2 => h.apart q p (by omega) hp hn hs h2.symm
 have hlen : ∀ p, p < 2 * es.length → (rowAt (es.set i e) p).length = (rowAt es p).length := fun p hp => by
  unfold rowAt
  rw [expAt_set es i e _ hi]
  by_cases h : p / 2 = i
  ·
   rw [if_pos h, h]; split
   ·
    exact l1
   ·
    exact l2
  ·
   rw [if_neg h]
 have hnn : ∀ p, p < 2 * es.length → (rowAt (es.set i e) p ≠ [] ↔ rowAt es p ≠ []) := fun p hp => by
  have := hlen p hp
  rw [← List.length_pos_iff, ← List.length_pos_iff, this]
 refine ⟨?_, ?_, ?_, ?_, ?_⟩
 ·
  have e1 : cellsE (es.set i e) R = cellsE es R := by
   rw [cellsE_set es R i hi e]
   have : eCells e (R (2 * i)) (R (2 * i + 1)) = (cellsE es R)[i]'(by rw [cellsE_len]; exact hi) := by rw [cellsE_get]; unfold eCells; rw [hp, hb, ho]
   rw [this, List.set_getElem_self]
  rw [e1]
  refine h.row.kept hg ?_
  cases hE : ev.ownBlock with
  | none => exact .inl rfl
  | some g => exact .inr (by rw [← hE]; exact fun h2 => h.off q hql hn h2.symm)
 ·
  intro p hp
  rw [List.length_set] at hp
  by_cases h1 : p = 2 * i
  ·
   subst h1; rw [rowAt_even, expAt_set es i e i hi, if_pos rfl]; exact o1
  ·
   by_cases h2 : p = 2 * i + 1
   ·
    subst h2; rw [rowAt_odd, expAt_set es i e i hi, if_pos rfl]; exact o2
   ·
    have : rowAt (es.set i e) p = rowAt es p := by
     unfold rowAt
     simp only [expAt_set es i e _ hi, if_neg (show ¬ p / 2 = i by omega)]
    rw [this]
    exact (h.nest p hp).keptG (h.lens p hp) hg (fun hs => hne p hp (by omega) hs)
 ·
  intro p hp; rw [List.length_set] at hp; rw [hlen p hp]; exact h.lens p hp
 ·
  intro p q' hpq hq'
  rw [List.length_set] at hq'
  rw [hnn p (by omega), hnn q' hq']
  exact h.apart p q' hpq hq'
 ·
  intro p hp; rw [List.length_set] at hp; rw [hnn p hp]; exact h.off p hp
end
/-- a buffer in rows of its own -/
structure BufR (w : World) (lo : Nat) (cv ev : Value) (cells : List Int) (es : List Exp) (R : Nat → Value) : Prop where
 cel : OwnZ w lo cv cells
 ex : ExpR w lo ev es R
 cl : cells.length ≤ 4194304
 el : es.length ≤ 1048576
 offc : cells ≠ [] → cv.ownBlock ≠ ev.ownBlock
 offr : ∀ p, p < 2 * es.length → rowAt es p ≠ [] → cells ≠ [] → (R p).ownBlock ≠ cv.ownBlock
section
variable {w w' : World} {lo lo' : Nat} {cv ev : Value} {cells : List Int} {es : List Exp} {R : Nat → Value}
theorem BufR.ext (h : BufR w lo cv ev cells es R) (hx : Ext w w') : BufR w' lo cv ev cells es R := ⟨h.cel.ext hx, h.ex.ext hx, h.cl, h.el, h.offc, h.offr⟩
theorem BufR.lower (h : BufR w lo cv ev cells es R) (hl : lo' ≤ lo) : BufR w lo' cv ev cells es R := ⟨h.cel.lower hl, h.ex.lower hl, h.cl, h.el, h.offc, h.offr⟩
theorem BufR.chg {l hi : Nat} (h : BufR w lo cv ev cells es R) (k : Chg l hi w w') (hb : hi ≤ lo) : BufR w' lo cv ev cells es R := ⟨h.cel.chg k hb, h.ex.chg k hb, h.cl, h.el, h.offc, h.offr⟩
theorem BufR.ints (h : BufR w lo cv ev cells es R) : Ints w lo cv cells := h.cel.ints h.cl
theorem BufR.exps (h : BufR w lo cv ev cells es R) : Exps w lo ev es := h.ex.exps h.el
end
/-- a call hands back a new buffer -/
def PBuf (w : World) (cells : List Int) (es : List Exp) (e : Ending) (w' : World) : Prop := ∃ cv ev R, e = .returned (.agg #[cv, ev]) ∧ BufR w' w.heap.size cv ev cells es R ∧ Ext w w'
/-- a call hands back a new buffer and whether there is one -/
def PBufB (w : World) (cells : List Int) (es : List Exp) (o : Bool) (e : Ending) (w' : World) : Prop := ∃ cv ev R, e = .returned (.tuple #[.agg #[cv, ev], .bool o]) ∧ BufR w' w.heap.size cv ev cells es R ∧ Ext w w'
theorem BufR.nil (w : World) (lo : Nat) : BufR w lo (.slice none 0 0) (.slice none 0 0) [] [] (fun _ => .slice none 0 0) :=
 ⟨.inl ⟨rfl, none, 0, rfl, by simp, fun _ => rfl⟩, ExpR.nil _ _ _, by simp, by simp, fun h => absurd rfl h, fun p h => by simp at h⟩
theorem PBufB.no {w w' : World} (h : Ext w w') : PBufB w [] [] false (.returned (.tuple #[.agg #[.slice none 0 0, .slice none 0 0], .bool false])) w' := ⟨_, _, _, rfl, BufR.nil _ _, h⟩
theorem infoExp : (Try.prog.info? TEXPORT).map (fun i => (i.zero, i.size, i.bytes)) = some (some (.agg #[.int .i64 0, .int .i64 0, .slice none 0 0, .slice none 0 0, .bool false]), 5, 72) := by kernel_rfl
end Go.Proofs.Ytfbbnbpobojboaa

/- Walks of the laws' own helpers on buffers: sizes, conversions. -/
namespace Go.Proofs.Ytfbbnbpobojboaa
open Go.RowKit
set_option linter.unusedVariables false
set_option maxRecDepth 100000

/-- a slice of exports that came in -/
def RawE (w : World) (v : Value) (es : List Exp) : Prop :=
  ∃ a cap, v = .slice a es.length cap ∧ (a = none → cap = 0) ∧
    ∀ i, i < es.length → ∃ bl off u1 c1 u2 c2, a = some ⟨bl, off, none⟩ ∧
      w.cell? ⟨bl, off + i * 5, none⟩ = some (.int .i64 (expAt es i).par) ∧ w.cell? ⟨bl, off + i * 5 + 1, none⟩ = some (.int .i64 (expAt es i).b) ∧
      w.cell? ⟨bl, off + i * 5 + 2, none⟩ = some (.slice u1 (expAt es i).s.length c1) ∧ w.cell? ⟨bl, off + i * 5 + 3, none⟩ = some (.slice u2 (expAt es i).t.length c2) ∧
      w.cell? ⟨bl, off + i * 5 + 4, none⟩ = some (.bool (expAt es i).op) ∧ Raw w (.slice u1 (expAt es i).s.length c1) (expAt es i).s ∧ Raw w (.slice u2 (expAt es i).t.length c2) (expAt es i).t ∧
      (expAt es i).s.length ≤ maxLen ∧ (expAt es i).t.length ≤ maxLen
theorem RawE.ext {w w' : World} {v : Value} {es : List Exp} (h : RawE w v es) (hx : Ext w w') : RawE w' v es := by
  obtain ⟨a, cap, hv, h3, h4⟩ := h
  refine ⟨a, cap, hv, h3, fun i hi => ?_⟩
  obtain ⟨bl, off, u1, c1, u2, c2, ha, k0, k1, k2, k3, k4, i1, i2, m⟩ := h4 i hi
  exact ⟨bl, off, u1, c1, u2, c2, ha, hx.cell k0, hx.cell k1, hx.cell k2, hx.cell k3, hx.cell k4, i1.ext hx, i2.ext hx, m⟩
/-- the numbers in the views of the first k exports -/
def sizeE (es : List Exp) : Nat → Nat
  | 0 => 0
  | k + 1 => sizeE es k + ((expAt es k).s.length + (expAt es k).t.length)
theorem sizeE_le (es : List Exp) (i k : Nat) (h : i < k) : (expAt es i).s.length + (expAt es i).t.length ≤ sizeE es k := by
  induction k with
  | zero => omega
  | succ k ih =>
    unfold sizeE
    by_cases hk : i = k
    · subst hk; omega
    · have := ih (by omega); omega
/-- what is left -/
def PLeft (need : Nat) (left : Int) (w : World) (e : Ending) (w' : World) : Prop := ∃ L : Int, e = .returned (.int .i64 L) ∧ -1 ≤ L ∧ L ≤ 1048576 ∧ (0 ≤ L → (need : Int) + L = left) ∧ Ext w w'
set_option maxHeartbeats 1600000 in
theorem szExport_c (p b : Int) (a1 a2 : Option Addr) (n1 c1 n2 c2 : Nat) (o : Bool) (left : Int) (w : World) (h0 : 0 ≤ left) (h1 : left ≤ 1048576) (m1 : n1 ≤ maxLen) (m2 : n2 ≤ maxLen) :
    Calls Try.prog 115 #[.agg #[.int .i64 p, .int .i64 b, .slice a1 n1 c1, .slice a2 n2 c2, .bool o], .int .i64 left] w (PLeft (n1 + n2) left w) := by
  go_enter Try.func115, Try.ntmps115
  go_wp2_with fail
  refine (szView_c b a1 a2 n1 c1 n2 c2 left _ h0 h1 m1 m2).mono ?_
  rintro e w1 ⟨rfl, x1⟩
  have X1 : Ext w w1 := Ext.trans qXt x1
  by_cases hq : szV left n1 n2 < 0
  · go_wp2_with fail
    go_ret
    exact ⟨-1, rfl, by omega, by omega, fun h => by omega, X1.trans qXt⟩
  · obtain ⟨y1, y2, y3⟩ := szV_ge h0 hq
    go_wp2_with fail
    go_ret
    exact ⟨_, rfl, by omega, by omega, fun h => by first | omega | (rw [y3]; omega), X1.trans qXt⟩
set_option maxHeartbeats 1600000 in
theorem szExportS_c (es : List Exp) (v : Value) (left : Int) (w : World) (hv : RawE w v es) (h0 : 0 ≤ left) (h1 : left ≤ 1048576) (hm : es.length ≤ maxLen) :
    Calls Try.prog 60 #[v, .int .i64 left] w (PLeft (es.length + sizeE es es.length) left w) := by
  obtain ⟨a, cap, rfl, _, hc⟩ := hv
  unfold maxLen at hm
  go_enter Try.func60, Try.ntmps60
  by_cases hq : left - es.length < 0
  · go_wp2_with fail
    go_ret
    exact ⟨-1, rfl, by omega, by omega, fun h => by omega, qXt⟩
  · go_wp2_with fail
    go_loopw [1, 5] (fun l i wr => ∃ (k : Nat) (L : Int), k ≤ es.length ∧ i = .int .i64 k ∧ l = .int .i64 L ∧ 0 ≤ L ∧ ((es.length + sizeE es k : Nat) : Int) + L = left ∧ Ext w wr) (fun _ i _ => es.length - (intOf i).toNat)
    case atStart => exact ⟨0, left - es.length, Nat.zero_le _, rfl, rfl, by omega, by unfold sizeE; omega, qXt⟩
    case round =>
      obtain ⟨k, L, hk, rfl, rfl, hL, hs, Xr⟩ := hrel
      by_cases hlt : k < es.length
      · have hkI : (k : Int) < es.length := by omega
        obtain ⟨bl, off, u1, c1, u2, c2, rfl, k0, k1, k2, k3, k4, r1, r2, m1, m2⟩ := hc k hlt
        replace k0 := Xr.cell k0
        replace k1 := Xr.cell k1
        replace k2 := Xr.cell k2
        replace k3 := Xr.cell k3
        replace k4 := Xr.cell k4
        clear hc r1 r2
        have hse : sizeE es (k+1) = sizeE es k + ((expAt es k).s.length + (expAt es k).t.length) := rfl
        go_wp2_with fail
        refine (szExport_c _ _ _ _ _ _ _ _ _ L _ hL (by omega) m1 m2).mono ?_
        rintro e w1 ⟨L1, rfl, q1, q2, q3, x1⟩
        have X1 : Ext w w1 := Xr.trans (Ext.trans qXt x1)
        by_cases hn : L1 < 0
        · go_wp2_with fail
          go_ret
          exact ⟨-1, rfl, by omega, by omega, fun h => by omega, X1⟩
        · have q4 := q3 (by omega)
          go_wp2_with fail
          go_roundw
          case rel => exact ⟨k+1, L1, by omega, by go_num, rfl, by omega, by rw [hse]; omega, X1⟩
          case measure => simp [intOf]; omega
      · obtain rfl : k = es.length := by omega
        go_wp2_with fail
        go_ret
        exact ⟨L, rfl, by omega, by omega, fun _ => hs, Xr⟩
set_option maxHeartbeats 1600000 in
theorem szBuffer_c (cells : List Int) (es : List Exp) (ac ae : Option Addr) (cc ce : Nat) (left : Int) (w : World) (hv : RawE w (.slice ae es.length ce) es) (h0 : 0 ≤ left) (h1 : left ≤ 1048576) (hm : es.length ≤ maxLen) (hn : cells.length ≤ maxLen) :
    Calls Try.prog 13 #[.agg #[.slice ac cells.length cc, .slice ae es.length ce], .int .i64 left] w (PLeft (cells.length + (es.length + sizeE es es.length)) left w) := by
  go_enter Try.func13, Try.ntmps13
  go_wp2_with fail
  refine (szIntS_c ac cells.length cc left _ h0 h1 hn).mono ?_
  rintro e w' ⟨rfl, rfl⟩
  by_cases hq : szN left cells.length < 0
  · go_wp2_with fail
    go_ret
    exact ⟨-1, rfl, by omega, by omega, fun h => by omega, qXt⟩
  · have hz := szN_ge left cells.length
    obtain ⟨z1, z2⟩ := hz.2.2 (by omega)
    have z3 := hz.2.1 h0
    have X0 : Ext w (w.alloc (.cells #[.slice ac cells.length cc, .slice ae es.length ce] 25)) := qXt
    go_wp2_with fail
    refine (szExportS_c es (.slice ae es.length ce) (left - cells.length) _ (hv.ext qXt) (by omega) (by omega) hm).mono ?_
    rintro e w1 ⟨L1, rfl, q1, q2, q3, x1⟩
    have X1 : Ext w w1 := Ext.trans qXt x1
    by_cases hn : L1 < 0
    · go_wp2_with fail
      go_ret
      exact ⟨-1, rfl, by omega, by omega, fun h => by omega, X1⟩
    · have q4 := q3 (by omega)
      go_wp2_with fail
      go_ret
      exact ⟨L1, rfl, by omega, by omega, fun _ => by omega, X1⟩
end Go.Proofs.Ytfbbnbpobojboaa

/- What the arguments of a law read as, when they are opened: buffers. No condition. -/
namespace Go.Proofs.Ytfbbnbpobojboaa
open Go.ChangeShapes Go.WideShapes Go.ChangeAt Go.RowKit Go.Joins
set_option linter.unusedVariables false
set_option maxRecDepth 100000

abbrev LVIEW : TypeId := 27
abbrev LEXPORT : TypeId := 125
abbrev LEXPORTS : TypeId := 23
section
variable {H : Type} {enc : TypeId × Value → H} {w : World} {base : Nat} {spare : Nat → Bool} {held : Bool} {fuel : Nat}

/-- the three cells of a view -/
theorem open_viewCells {cs : List Value} {x : DataW H × List MemPlace} (h : DataW.trod enc Try.prog w base spare held fuel LVIEW cs = some x) :
    ∃ (b : Int) (s t : List Int) (u1 : Option Addr) (c1 : Nat) (u2 : Option Addr) (c2 : Nat), cs = [.int .i64 b, .slice u1 s.length c1, .slice u2 t.length c2] ∧ RawIn w (.slice u1 s.length c1) s ∧ RawIn w (.slice u2 t.length c2) t := by
  obtain ⟨y0, y1, y2, n, -, hl, h0, h1, h2⟩ := Deep.trod_struct3 Try.underlying27 h
  have hc : Try.prog.cellsOf LVIEW = 3 := by kernel_rfl
  have hi : Try.prog.cellsOf 3 = 1 := by kernel_rfl
  have hs : Try.prog.cellsOf 22 = 1 := by kernel_rfl
  rw [hc] at hl
  match cs, hl with
  | [v0, v1, v2], _ =>
    dsimp only at h0 h1 h2
    rw [hi] at h0
    rw [hs] at h1 h2
    obtain ⟨b, rfl, -⟩ := open_rawInt (v := v0) h0
    obtain ⟨s, hx⟩ := open_rawInts (v := v1) h1
    obtain ⟨t, hy⟩ := open_rawInts (v := v2) h2
    obtain ⟨u1, c1, rfl⟩ := hx.form
    obtain ⟨u2, c2, rfl⟩ := hy.form
    exact ⟨b, s, t, u1, c1, u2, c2, rfl, hx, hy⟩
/-- the five cells of an export -/
theorem open_expCells {cs : List Value} {x : DataW H × List MemPlace} (h : DataW.trod enc Try.prog w base spare held fuel LEXPORT cs = some x) :
    ∃ (e : Exp) (u1 : Option Addr) (c1 : Nat) (u2 : Option Addr) (c2 : Nat), cs = [.int .i64 e.par, .int .i64 e.b, .slice u1 e.s.length c1, .slice u2 e.t.length c2, .bool e.op] ∧ RawIn w (.slice u1 e.s.length c1) e.s ∧ RawIn w (.slice u2 e.t.length c2) e.t := by
  obtain ⟨y0, y1, y2, n, -, hl, h0, h1, h2⟩ := Deep.trod_struct3 Try.underlying125 h
  have hc : Try.prog.cellsOf LEXPORT = 5 := by kernel_rfl
  have hi : Try.prog.cellsOf 3 = 1 := by kernel_rfl
  have hv : Try.prog.cellsOf LVIEW = 3 := by kernel_rfl
  have hb : Try.prog.cellsOf 4 = 1 := by kernel_rfl
  rw [hc] at hl
  match cs, hl with
  | [v0, v1, v2, v3, v4], _ =>
    dsimp only at h0 h1 h2
    rw [hi] at h0
    rw [hv] at h1
    rw [hb] at h2
    obtain ⟨p, rfl, -⟩ := open_rawInt (v := v0) h0
    obtain ⟨b, s, t, u1, c1, u2, c2, hcs, hx, hy⟩ := open_viewCells (cs := [v1, v2, v3]) h1
    obtain ⟨o, ho, -⟩ := DataW.trod_bool (cs := [v4]) Try.underlying4 h2
    cases hcs
    cases ho
    exact ⟨⟨p, b, s, t, o⟩, u1, c1, u2, c2, rfl, hx, hy⟩
/-- the exports that came in -/
theorem open_rawExps {v : Value} {x : DataW H × List MemPlace} (hf : DataW.trod enc Try.prog w base spare held fuel LEXPORTS [v] = some x) : ∃ es, RawE w v es ∧ es.length ≤ maxLen := by
  rcases Deep.open_slice Try.underlying23 hf with ⟨hcs, _⟩ | ⟨a, len, cap, m, n, D, Pl, hcs, -, hlc, hcm, hm, -, hel⟩
  · simp at hcs; subst hcs
    exact ⟨[], ⟨none, 0, rfl, fun _ => rfl, fun i hi => absurd hi (by simp)⟩, by simp⟩
  · simp at hcs; subst hcs
    have hlm : len ≤ m := by rw [hm]; split <;> omega
    have each : ∀ i, i < len → ∃ e : Exp, ∃ u1 c1 u2 c2, a.spot = none ∧ w.cell? ⟨a.block, a.off + i * 5, none⟩ = some (.int .i64 e.par) ∧ w.cell? ⟨a.block, a.off + i * 5 + 1, none⟩ = some (.int .i64 e.b) ∧
        w.cell? ⟨a.block, a.off + i * 5 + 2, none⟩ = some (.slice u1 e.s.length c1) ∧ w.cell? ⟨a.block, a.off + i * 5 + 3, none⟩ = some (.slice u2 e.t.length c2) ∧ w.cell? ⟨a.block, a.off + i * 5 + 4, none⟩ = some (.bool e.op) ∧
        RawIn w (.slice u1 e.s.length c1) e.s ∧ RawIn w (.slice u2 e.t.length c2) e.t := by
      intro i hi
      obtain ⟨cs', h1, h2⟩ := hel i (by omega)
      have hc : Try.prog.cellsOf LEXPORT = 5 := by kernel_rfl
      rw [hc] at h1
      obtain ⟨-, -, hcell⟩ := World.cells?_some h1
      obtain ⟨e, u1, c1, u2, c2, rfl, hx, hy⟩ := open_expCells h2
      have k0 := hcell 0 (by omega)
      have k1 := hcell 1 (by omega)
      have k2 := hcell 2 (by omega)
      have k3 := hcell 3 (by omega)
      have k4 := hcell 4 (by omega)
      obtain ⟨b, off, spot⟩ := a
      rw [Deep.add_add] at k0 k1 k2 k3 k4
      have hspot : spot = none := by
        obtain ⟨cs0, p1, p2⟩ := hel 0 (by omega)
        rw [hc] at p1
        obtain ⟨-, -, hcell0⟩ := World.cells?_some p1
        obtain ⟨e0, a1, a2, a3, a4, rfl, -, -⟩ := open_expCells p2
        have k9 := hcell0 0 (by omega)
        rw [Deep.add_add] at k9
        have k8 : w.cell? ((⟨b, off, spot⟩ : Addr).add 0) = some (.int .i64 e0.par) := by simpa using k9
        have k7 := World.cell?_spot k8
        simpa [Addr.add] using k7
      subst hspot
      have e7 : ∀ j, (⟨b, off, none⟩ : Addr).add j = ⟨b, off + j, none⟩ := fun j => by unfold Addr.add; split <;> simp_all
      rw [e7] at k0 k1 k2 k3 k4
      exact ⟨e, u1, c1, u2, c2, rfl, by simpa using k0, by simpa [Nat.add_assoc] using k1, by simpa [Nat.add_assoc] using k2, by simpa [Nat.add_assoc] using k3, by simpa [Nat.add_assoc] using k4, hx, hy⟩
    haveI : Inhabited Exp := ⟨noE⟩
    obtain ⟨f, hF⟩ := Deep.choose_lt each
    have hl : ((List.range len).map f).length = len := by simp
    have hg : ∀ i, i < len → expAt ((List.range len).map f) i = f i := fun i hi => by
      rw [expAt_get (by rw [hl]; exact hi)]; simp
    refine ⟨(List.range len).map f, ⟨some a, cap, by rw [hl], (fun h => by cases h), fun i hi => ?_⟩, by rw [hl]; omega⟩
    rw [hl] at hi
    rw [hg i hi]
    obtain ⟨u1, c1, u2, c2, hsp, k0, k1, k2, k3, k4, hx, hy⟩ := hF i hi
    obtain ⟨b, off, spot⟩ := a
    cases hsp
    exact ⟨b, off, u1, c1, u2, c2, rfl, k0, k1, k2, k3, k4, hx.1, hy.1, hx.2, hy.2⟩

theorem RawE.form {v : Value} {es : List Exp} (h : RawE w v es) : ∃ a cap, v = .slice a es.length cap := by
  obtain ⟨a, cap, hv, _⟩ := h; exact ⟨a, cap, hv⟩
theorem open_buffer {r : Reach} {b0 : Nat} {v : Value} {d : DataW H} {p : List MemPlace} (hv : Value.okWide Try.prog w r b0 25 v) (h : DataW.Trod enc Try.prog w base spare held 25 v d p) :
    ∃ (cells : List Int) (es : List Exp) (ac ae : Option Addr) (cc ce : Nat), v = .agg #[.slice ac cells.length cc, .slice ae es.length ce] ∧ RawIn w (.slice ac cells.length cc) cells ∧ RawE w (.slice ae es.length ce) es ∧ es.length ≤ maxLen := by
  obtain ⟨v0, v1, y0, y1, n, rfl, _, _, h0, h1⟩ := open_agg2 Try.underlying25 qKr qKr hv h
  obtain ⟨xs, hx⟩ := open_rawInts h0
  obtain ⟨es, he, hl⟩ := open_rawExps h1
  obtain ⟨a, cap, rfl⟩ := hx.form
  obtain ⟨a2, cap2, rfl⟩ := he.form
  exact ⟨xs, es, a, a2, cap, cap2, rfl, hx, he, hl⟩
end
end Go.Proofs.Ytfbbnbpobojboaa

/- Walks: valid buffers. -/
namespace Go.Proofs.Ytfbbnbpobojboaa
open Go.RowKit
set_option linter.unusedVariables false
set_option maxRecDepth 100000

set_option maxHeartbeats 3200000 in
theorem isBuffer_c (cells : List Int) (es : List Exp) (cv ev : Value) (w : World) (l1 l2 : Nat) (h1 : Ints w l1 cv cells) (h2 : Exps w l2 ev es) :
  Calls Try.prog 66 #[.agg #[cv, ev]] w (fun e w' => e = .returned (.bool (bufB cells es)) ∧ Ext w w') := by
 obtain ⟨p0, c0, rfl⟩ := h1.form
 obtain ⟨p1, c1, rfl⟩ := h2.form
 have he1 := h2.len
 have hc1 := h1.len
 go_enter Try.func66, Try.ntmps66
 go_wp2_with fail
 refine (isMemory_c cells (.slice p0 cells.length c0) _ _ (h1.ext qXt)).mono ?_
 rintro e w' ⟨rfl, rfl⟩
 cases hB2 : memB cells
 ·
  replace hB2 := Lib.hid hB2
  go_wp2_with fail
  go_ret
  exact ⟨by rw [show bufB cells es = false from by unfold bufB; rw [hB2.out]; rfl] <;> rfl, qXt⟩
 ·
  replace hB2 := Lib.hid hB2
  by_cases hc3 : (8 : Int) < (es.length : Int)
  ·
   go_wp2_with fail
   go_ret
   exact ⟨by rw [show bufB cells es = false from by unfold bufB; rw [decide_eq_false (show ¬ es.length ≤ 8 by omega)]; simp] <;> rfl, qXt⟩
  ·
   go_wp2_with fail
   generalize hW1 : w.alloc (.cells #[.slice p0 cells.length c0, .slice p1 es.length c1] 32) = w1 at *
   have Lw1 : Ext w w1 := by subst hW1; exact qXt
   have Xw1 : Ext w w1 := by subst hW1; exact Lw1
   have b10 : w1.cell? ⟨w.heap.size, 0, none⟩ = some (.slice p0 cells.length c0) := by subst hW1; exact qCl
   have b11 : w1.cell? ⟨w.heap.size, 1, none⟩ = some (.slice p1 es.length c1) := by subst hW1; exact qCl
   have z_b1 : w.heap.size < w1.heap.size := qB b10
   have s_w1 : w.heap.size ≤ w1.heap.size := Xw1.size
   clear hW1
   go_loopw [18] (fun i wr => ∃ (k : Nat), k ≤ es.length ∧ i = .int .i64 k ∧ Hid (expsB cells es k = true) ∧ Ext w1 wr) (fun i _ => es.length - (intOf i).toNat)
   case atStart => exact ⟨0, Nat.zero_le _, rfl, Lib.hid rfl, qXt⟩
   case round =>
    obtain ⟨k, hk, rfl, ht, Lwr⟩ := hrel
    have Xwr : Ext w wr := Xw1.trans Lwr
    have s_wr : w.heap.size ≤ wr.heap.size := Xwr.size
    have t_wr : w1.heap.size ≤ wr.heap.size := Lwr.size
    replace b10 := Lwr.cell b10
    replace b11 := Lwr.cell b11
    have z_b1 : w.heap.size < wr.heap.size := qB b10
    have Bwr : Ext w1 wr := Lwr
    rcases (show (k < es.length ∧ 0 ≤ (expAt es k).par) ∨ (k < es.length ∧ ¬ 0 ≤ (expAt es k).par) ∨ ¬ k < es.length by omega) with ⟨hlt, hpar⟩ | ⟨hlt, hpar⟩ | hlt
    ·
     have hkI : (k : Int) < es.length := by omega
     have hN_x4 : k < es.length := (by omega)
     have hI_x4 : (k : Int) < (es.length : Int) := by omega
     obtain ⟨bl17, ol18, u11, c12, u13, c14, rfl, x40, x41, x42, x43, x44, i15, i16⟩ := (h2.ext Xwr).at k hN_x4
     obtain ⟨X10, hX10⟩ : ∃ x, expAt es k = x := ⟨_, rfl⟩
     rw [hX10] at x40 x41 x42 x43 x44 i15 i16
     have hpq_x4 := hpar
     rw [hX10] at hpq_x4
     obtain ⟨P5, B6, S7, T8, O9⟩ := X10
     dsimp only at x40 x41 x42 x43 x44 i15 i16 hpq_x4
     obtain ⟨q, rfl⟩ : ∃ q : Nat, P5 = (q : Int) := ⟨P5.toNat, by omega⟩
     clear hpq_x4
     replace hX10 := Lib.hid hX10
     have z_x4 : bl17 < wr.heap.size := qB x40
     cases O9
     ·
      go_wp2_with fail
      refine (isView_c B6 (.slice u11 S7.length c12) (.slice u13 T8.length c14) S7 T8 _ _ _ (i15.ext qXt) (i16.ext qXt)).mono ?_
      rintro e w2 ⟨rfl, xw2⟩
      have Lw2 : Ext wr w2 := Ext.trans qXt xw2
      have Xw2 : Ext w w2 := Xwr.trans Lw2
      replace b10 := Lw2.cell b10
      replace b11 := Lw2.cell b11
      replace x40 := Lw2.cell x40
      replace x41 := Lw2.cell x41
      replace x42 := Lw2.cell x42
      replace x43 := Lw2.cell x43
      replace x44 := Lw2.cell x44
      have b190 : w2.cell? ⟨wr.heap.size, 0, none⟩ = some (.int .i64 (q : Int)) := xw2.cell qCl
      have b191 : w2.cell? ⟨wr.heap.size, 1, none⟩ = some (.int .i64 B6) := xw2.cell qCl
      have b192 : w2.cell? ⟨wr.heap.size, 2, none⟩ = some (.slice u11 S7.length c12) := xw2.cell qCl
      have b193 : w2.cell? ⟨wr.heap.size, 3, none⟩ = some (.slice u13 T8.length c14) := xw2.cell qCl
      have b194 : w2.cell? ⟨wr.heap.size, 4, none⟩ = some (.bool false) := xw2.cell qCl
      have z_b1 : w.heap.size < w2.heap.size := qB b10
      have z_x4 : bl17 < w2.heap.size := qB x40
      have z_b19 : wr.heap.size < w2.heap.size := qB b190
      replace i15 := i15.ext Lw2
      replace i16 := i16.ext Lw2
      have s_w2 : w.heap.size ≤ w2.heap.size := Xw2.size
      have Bwr_w2 : Ext w1 w2 := Bwr.trans Lw2
      clear xw2
      cases hB20 : viewB B6 S7 T8
      ·
       replace hB20 := Lib.hid hB20
       go_wp2_with fail
       go_ret
       exact ⟨by rw [show bufB cells es = false from by unfold bufB; rw [expsB_no hlt (by unfold expB inB; rw [hX10.out]; dsimp only; rw [hB20.out]; simp <;> omega)]; simp] <;> rfl, (Xw2.trans qXt)⟩
      ·
       replace hB20 := Lib.hid hB20
       have hq21 : ¬ ((q : Int) < (-1 : Int)) := (by omega)
       by_cases hc22 : (k : Int) ≤ (q : Int)
       ·
        go_wp2_with fail
        go_ret
        exact ⟨by rw [show bufB cells es = false from by unfold bufB; rw [expsB_no hlt (by unfold expB inB; rw [hX10.out]; dsimp only; rw [hB20.out]; simp <;> omega)]; simp] <;> rfl, (Xw2.trans qXt)⟩
       ·
        go_wp2_with fail
        go_roundw
        case rel => exact ⟨k + 1, by omega, by go_num, Lib.hid (by rw [expsB_succ, ht.out, Bool.true_and]; exact (by unfold expB inB; rw [hX10.out]; dsimp only; rw [hB20.out]; simp <;> omega)), (Bwr_w2.trans qXt)⟩
        case measure => simp [intOf]; omega
     ·
      go_wp2_with fail
      refine (isView_c B6 (.slice u11 S7.length c12) (.slice u13 T8.length c14) S7 T8 _ _ _ (i15.ext qXt) (i16.ext qXt)).mono ?_
      rintro e w2 ⟨rfl, xw2⟩
      have Lw2 : Ext wr w2 := Ext.trans qXt xw2
      have Xw2 : Ext w w2 := Xwr.trans Lw2
      replace b10 := Lw2.cell b10
      replace b11 := Lw2.cell b11
      replace x40 := Lw2.cell x40
      replace x41 := Lw2.cell x41
      replace x42 := Lw2.cell x42
      replace x43 := Lw2.cell x43
      replace x44 := Lw2.cell x44
      have b230 : w2.cell? ⟨wr.heap.size, 0, none⟩ = some (.int .i64 (q : Int)) := xw2.cell qCl
      have b231 : w2.cell? ⟨wr.heap.size, 1, none⟩ = some (.int .i64 B6) := xw2.cell qCl
      have b232 : w2.cell? ⟨wr.heap.size, 2, none⟩ = some (.slice u11 S7.length c12) := xw2.cell qCl
      have b233 : w2.cell? ⟨wr.heap.size, 3, none⟩ = some (.slice u13 T8.length c14) := xw2.cell qCl
      have b234 : w2.cell? ⟨wr.heap.size, 4, none⟩ = some (.bool true) := xw2.cell qCl
      have z_b1 : w.heap.size < w2.heap.size := qB b10
      have z_x4 : bl17 < w2.heap.size := qB x40
      have z_b23 : wr.heap.size < w2.heap.size := qB b230
      replace i15 := i15.ext Lw2
      replace i16 := i16.ext Lw2
      have s_w2 : w.heap.size ≤ w2.heap.size := Xw2.size
      have Bwr_w2 : Ext w1 w2 := Bwr.trans Lw2
      clear xw2
      cases hB24 : viewB B6 S7 T8
      ·
       replace hB24 := Lib.hid hB24
       go_wp2_with fail
       go_ret
       exact ⟨by rw [show bufB cells es = false from by unfold bufB; rw [expsB_no hlt (by unfold expB inB; rw [hX10.out]; dsimp only; rw [hB24.out]; simp <;> omega)]; simp] <;> rfl, (Xw2.trans qXt)⟩
      ·
       replace hB24 := Lib.hid hB24
       have hq25 : ¬ ((q : Int) < (-1 : Int)) := (by omega)
       by_cases hc26 : (k : Int) ≤ (q : Int)
       ·
        go_wp2_with fail
        go_ret
        exact ⟨by rw [show bufB cells es = false from by unfold bufB; rw [expsB_no hlt (by unfold expB inB; rw [hX10.out]; dsimp only; rw [hB24.out]; simp <;> omega)]; simp] <;> rfl, (Xw2.trans qXt)⟩
       ·
        go_wp2_with fail
        refine (fitsIn_c B6 (.slice u11 S7.length c12) (.slice u13 T8.length c14) S7 T8 (cells.length : Int) _ _ _ (i15.ext qXt) (i16.ext qXt) hB24.out).mono ?_
        rintro e w3 ⟨rfl, xw3⟩
        have Lw3 : Ext w2 w3 := Ext.trans qXt xw3
        have Xw3 : Ext w w3 := Xw2.trans Lw3
        replace b10 := Lw3.cell b10
        replace b11 := Lw3.cell b11
        replace x40 := Lw3.cell x40
        replace x41 := Lw3.cell x41
        replace x42 := Lw3.cell x42
        replace x43 := Lw3.cell x43
        replace x44 := Lw3.cell x44
        replace b230 := Lw3.cell b230
        replace b231 := Lw3.cell b231
        replace b232 := Lw3.cell b232
        replace b233 := Lw3.cell b233
        replace b234 := Lw3.cell b234
        have z_b1 : w.heap.size < w3.heap.size := qB b10
        have z_x4 : bl17 < w3.heap.size := qB x40
        have z_b23 : wr.heap.size < w3.heap.size := qB b230
        replace i15 := i15.ext Lw3
        replace i16 := i16.ext Lw3
        have s_w3 : w.heap.size ≤ w3.heap.size := Xw3.size
        have Bwr_w3 : Ext w1 w3 := Bwr_w2.trans Lw3
        clear xw3
        cases hB27 : fitB B6 S7 T8 (cells.length : Int)
        ·
         replace hB27 := Lib.hid hB27
         go_wp2_with fail
         go_ret
         exact ⟨by rw [show bufB cells es = false from by unfold bufB; rw [expsB_no hlt (by unfold expB inB; rw [hX10.out]; dsimp only; rw [hB24.out]; rw [hB27.out]; simp <;> omega)]; simp] <;> rfl, (Xw3.trans qXt)⟩
        ·
         replace hB27 := Lib.hid hB27
         have hq28 : (0 : Int) ≤ (q : Int) := (by omega)
         have hN_x29 : q < es.length := (by omega)
         have hI_x29 : (q : Int) < (es.length : Int) := by omega
         obtain ⟨b_x29, o_x29, u36, c37, u38, c39, h_x29, x290, x291, x292, x293, x294, i40, i41⟩ := (h2.ext Xw3).at q hN_x29
         cases h_x29
         obtain ⟨X35, hX35⟩ : ∃ x, expAt es q = x := ⟨_, rfl⟩
         rw [hX35] at x290 x291 x292 x293 x294 i40 i41
         obtain ⟨P30, B31, S32, T33, O34⟩ := X35
         dsimp only at x290 x291 x292 x293 x294 i40 i41
         replace hX35 := Lib.hid hX35
         have z_x29 : bl17 < w3.heap.size := qB x290
         cases O34
         ·
          go_wp2_with fail
          go_ret
          exact ⟨by rw [show bufB cells es = false from by unfold bufB; rw [expsB_no hlt (by unfold expB inB; rw [hX10.out]; dsimp only; rw [hB24.out]; rw [hB27.out]; simp [hX35.out] <;> omega)]; simp] <;> rfl, (Xw3.trans qXt)⟩
         ·
          go_wp2_with fail
          go_roundw
          case rel => exact ⟨k + 1, by omega, by go_num, Lib.hid (by rw [expsB_succ, ht.out, Bool.true_and]; exact (by unfold expB inB; rw [hX10.out]; dsimp only; rw [hB24.out]; rw [hB27.out]; simp [hX35.out] <;> omega)), (Bwr_w3.trans qXt)⟩
          case measure => simp [intOf]; omega
    ·
     have hkI : (k : Int) < es.length := by omega
     have hN_x44 : k < es.length := (by omega)
     have hI_x44 : (k : Int) < (es.length : Int) := by omega
     obtain ⟨bl57, ol58, u51, c52, u53, c54, rfl, x440, x441, x442, x443, x444, i55, i56⟩ := (h2.ext Xwr).at k hN_x44
     obtain ⟨X50, hX50⟩ : ∃ x, expAt es k = x := ⟨_, rfl⟩
     rw [hX50] at x440 x441 x442 x443 x444 i55 i56
     obtain ⟨P45, B46, S47, T48, O49⟩ := X50
     dsimp only at x440 x441 x442 x443 x444 i55 i56
     replace hX50 := Lib.hid hX50
     have z_x44 : bl57 < wr.heap.size := qB x440
     cases O49
     ·
      go_wp2_with fail
      refine (isView_c B46 (.slice u51 S47.length c52) (.slice u53 T48.length c54) S47 T48 _ _ _ (i55.ext qXt) (i56.ext qXt)).mono ?_
      rintro e w2 ⟨rfl, xw2⟩
      have Lw2 : Ext wr w2 := Ext.trans qXt xw2
      have Xw2 : Ext w w2 := Xwr.trans Lw2
      replace b10 := Lw2.cell b10
      replace b11 := Lw2.cell b11
      replace x440 := Lw2.cell x440
      replace x441 := Lw2.cell x441
      replace x442 := Lw2.cell x442
      replace x443 := Lw2.cell x443
      replace x444 := Lw2.cell x444
      have b590 : w2.cell? ⟨wr.heap.size, 0, none⟩ = some (.int .i64 P45) := xw2.cell qCl
      have b591 : w2.cell? ⟨wr.heap.size, 1, none⟩ = some (.int .i64 B46) := xw2.cell qCl
      have b592 : w2.cell? ⟨wr.heap.size, 2, none⟩ = some (.slice u51 S47.length c52) := xw2.cell qCl
      have b593 : w2.cell? ⟨wr.heap.size, 3, none⟩ = some (.slice u53 T48.length c54) := xw2.cell qCl
      have b594 : w2.cell? ⟨wr.heap.size, 4, none⟩ = some (.bool false) := xw2.cell qCl
      have z_b1 : w.heap.size < w2.heap.size := qB b10
      have z_x44 : bl57 < w2.heap.size := qB x440
      have z_b59 : wr.heap.size < w2.heap.size := qB b590
      replace i55 := i55.ext Lw2
      replace i56 := i56.ext Lw2
      have s_w2 : w.heap.size ≤ w2.heap.size := Xw2.size
      have Bwr_w2 : Ext w1 w2 := Bwr.trans Lw2
      clear xw2
      cases hB60 : viewB B46 S47 T48
      ·
       replace hB60 := Lib.hid hB60
       go_wp2_with fail
       go_ret
       exact ⟨by rw [show bufB cells es = false from by unfold bufB; rw [expsB_no hlt (by unfold expB inB; rw [hX50.out]; dsimp only; rw [hB60.out]; simp <;> omega)]; simp] <;> rfl, (Xw2.trans qXt)⟩
      ·
       replace hB60 := Lib.hid hB60
       by_cases hc61 : (P45 : Int) < (-1 : Int)
       ·
        go_wp2_with fail
        go_ret
        exact ⟨by rw [show bufB cells es = false from by unfold bufB; rw [expsB_no hlt (by unfold expB inB; rw [hX50.out]; dsimp only; rw [hB60.out]; simp <;> omega)]; simp] <;> rfl, (Xw2.trans qXt)⟩
       ·
        by_cases hc62 : (k : Int) ≤ (P45 : Int)
        ·
         go_wp2_with fail
         go_ret
         exact ⟨by rw [show bufB cells es = false from by unfold bufB; rw [expsB_no hlt (by unfold expB inB; rw [hX50.out]; dsimp only; rw [hB60.out]; simp <;> omega)]; simp] <;> rfl, (Xw2.trans qXt)⟩
        ·
         go_wp2_with fail
         go_roundw
         case rel => exact ⟨k + 1, by omega, by go_num, Lib.hid (by rw [expsB_succ, ht.out, Bool.true_and]; exact (by unfold expB inB; rw [hX50.out]; dsimp only; rw [hB60.out]; simp <;> omega)), (Bwr_w2.trans qXt)⟩
         case measure => simp [intOf]; omega
     ·
      go_wp2_with fail
      refine (isView_c B46 (.slice u51 S47.length c52) (.slice u53 T48.length c54) S47 T48 _ _ _ (i55.ext qXt) (i56.ext qXt)).mono ?_
      rintro e w2 ⟨rfl, xw2⟩
      have Lw2 : Ext wr w2 := Ext.trans qXt xw2
      have Xw2 : Ext w w2 := Xwr.trans Lw2
      replace b10 := Lw2.cell b10
      replace b11 := Lw2.cell b11
      replace x440 := Lw2.cell x440
      replace x441 := Lw2.cell x441
      replace x442 := Lw2.cell x442
      replace x443 := Lw2.cell x443
      replace x444 := Lw2.cell x444
      have b630 : w2.cell? ⟨wr.heap.size, 0, none⟩ = some (.int .i64 P45) := xw2.cell qCl
      have b631 : w2.cell? ⟨wr.heap.size, 1, none⟩ = some (.int .i64 B46) := xw2.cell qCl
      have b632 : w2.cell? ⟨wr.heap.size, 2, none⟩ = some (.slice u51 S47.length c52) := xw2.cell qCl
      have b633 : w2.cell? ⟨wr.heap.size, 3, none⟩ = some (.slice u53 T48.length c54) := xw2.cell qCl
      have b634 : w2.cell? ⟨wr.heap.size, 4, none⟩ = some (.bool true) := xw2.cell qCl
      have z_b1 : w.heap.size < w2.heap.size := qB b10
      have z_x44 : bl57 < w2.heap.size := qB x440
      have z_b63 : wr.heap.size < w2.heap.size := qB b630
      replace i55 := i55.ext Lw2
      replace i56 := i56.ext Lw2
      have s_w2 : w.heap.size ≤ w2.heap.size := Xw2.size
      have Bwr_w2 : Ext w1 w2 := Bwr.trans Lw2
      clear xw2
      cases hB64 : viewB B46 S47 T48
      ·
       replace hB64 := Lib.hid hB64
       go_wp2_with fail
       go_ret
       exact ⟨by rw [show bufB cells es = false from by unfold bufB; rw [expsB_no hlt (by unfold expB inB; rw [hX50.out]; dsimp only; rw [hB64.out]; simp <;> omega)]; simp] <;> rfl, (Xw2.trans qXt)⟩
      ·
       replace hB64 := Lib.hid hB64
       by_cases hc65 : (P45 : Int) < (-1 : Int)
       ·
        go_wp2_with fail
        go_ret
        exact ⟨by rw [show bufB cells es = false from by unfold bufB; rw [expsB_no hlt (by unfold expB inB; rw [hX50.out]; dsimp only; rw [hB64.out]; simp <;> omega)]; simp] <;> rfl, (Xw2.trans qXt)⟩
       ·
        by_cases hc66 : (k : Int) ≤ (P45 : Int)
        ·
         go_wp2_with fail
         go_ret
         exact ⟨by rw [show bufB cells es = false from by unfold bufB; rw [expsB_no hlt (by unfold expB inB; rw [hX50.out]; dsimp only; rw [hB64.out]; simp <;> omega)]; simp] <;> rfl, (Xw2.trans qXt)⟩
        ·
         go_wp2_with fail
         refine (fitsIn_c B46 (.slice u51 S47.length c52) (.slice u53 T48.length c54) S47 T48 (cells.length : Int) _ _ _ (i55.ext qXt) (i56.ext qXt) hB64.out).mono ?_
         rintro e w3 ⟨rfl, xw3⟩
         have Lw3 : Ext w2 w3 := Ext.trans qXt xw3
         have Xw3 : Ext w w3 := Xw2.trans Lw3
         replace b10 := Lw3.cell b10
         replace b11 := Lw3.cell b11
         replace x440 := Lw3.cell x440
         replace x441 := Lw3.cell x441
         replace x442 := Lw3.cell x442
         replace x443 := Lw3.cell x443
         replace x444 := Lw3.cell x444
         replace b630 := Lw3.cell b630
         replace b631 := Lw3.cell b631
         replace b632 := Lw3.cell b632
         replace b633 := Lw3.cell b633
         replace b634 := Lw3.cell b634
         have z_b1 : w.heap.size < w3.heap.size := qB b10
         have z_x44 : bl57 < w3.heap.size := qB x440
         have z_b63 : wr.heap.size < w3.heap.size := qB b630
         replace i55 := i55.ext Lw3
         replace i56 := i56.ext Lw3
         have s_w3 : w.heap.size ≤ w3.heap.size := Xw3.size
         have Bwr_w3 : Ext w1 w3 := Bwr_w2.trans Lw3
         clear xw3
         cases hB67 : fitB B46 S47 T48 (cells.length : Int)
         ·
          replace hB67 := Lib.hid hB67
          go_wp2_with fail
          go_ret
          exact ⟨by rw [show bufB cells es = false from by unfold bufB; rw [expsB_no hlt (by unfold expB inB; rw [hX50.out]; dsimp only; rw [hB64.out]; rw [hB67.out]; simp <;> omega)]; simp] <;> rfl, (Xw3.trans qXt)⟩
         ·
          replace hB67 := Lib.hid hB67
          have hq68 : ¬ ((0 : Int) ≤ (P45 : Int)) := (by have h7 := hpar; rw [hX50.out] at h7; dsimp only at h7; omega)
          go_wp2_with fail
          go_roundw
          case rel => exact ⟨k + 1, by omega, by go_num, Lib.hid (by rw [expsB_succ, ht.out, Bool.true_and]; exact (by unfold expB inB; rw [hX50.out]; dsimp only; rw [hB64.out]; rw [hB67.out]; simp <;> omega)), (Bwr_w3.trans qXt)⟩
          case measure => simp [intOf]; omega
    ·
     obtain rfl : k = es.length := by omega
     have hkI : ¬ (es.length : Int) < es.length := by omega
     go_wp2_with fail
     go_ret
     exact ⟨by rw [show bufB cells es = true from by unfold bufB; rw [hB2.out, ht.out, decide_eq_true (by omega)]; rfl] <;> rfl, (Xwr.trans qXt)⟩


end Go.Proofs.Ytfbbnbpobojboaa

/- Walks: valid buffers of the reference. -/
namespace Go.Proofs.Ytfbbnbpobojboaa
open Go.RowKit
set_option linter.unusedVariables false
set_option maxRecDepth 100000

set_option maxHeartbeats 3200000 in
theorem vexp_0 (cells : List Int) (es : List Exp) (cv ev : Value) (k : Nat) (w : World) (l1 l2 : Nat) (h1 : Ints w l1 cv cells) (h2 : Exps w l2 ev es) (hlt : k < es.length) (hpar : 0 ≤ (expAt es k).par) :
  Calls Try.prog 116 #[.agg #[cv, ev], .int .i64 (k : Int)] w (fun e w' => e = .returned (.bool (expB cells es k)) ∧ Ext w w') := by
 obtain ⟨p0, c0, rfl⟩ := h1.form
 obtain ⟨p1, c1, rfl⟩ := h2.form
 have he1 := h2.len
 have hc1 := h1.len
 go_enter Try.func116, Try.ntmps116
 have hN_x2 : k < es.length := (by omega)
 have hI_x2 : (k : Int) < (es.length : Int) := by omega
 obtain ⟨bl15, ol16, u9, c10, u11, c12, rfl, x20, x21, x22, x23, x24, i13, i14⟩ := h2.at k hN_x2
 obtain ⟨X8, hX8⟩ : ∃ x, expAt es k = x := ⟨_, rfl⟩
 rw [hX8] at x20 x21 x22 x23 x24 i13 i14
 have hpq_x2 := hpar
 rw [hX8] at hpq_x2
 obtain ⟨P3, B4, S5, T6, O7⟩ := X8
 dsimp only at x20 x21 x22 x23 x24 i13 i14 hpq_x2
 obtain ⟨q, rfl⟩ : ∃ q : Nat, P3 = (q : Int) := ⟨P3.toNat, by omega⟩
 clear hpq_x2
 replace hX8 := Lib.hid hX8
 have z_x2 : bl15 < w.heap.size := qB x20
 cases O7
 ·
  go_wp2_with fail
  refine (inRange_c (q : Int) (-1) ((k : Int) - 1) _).mono ?_
  rintro e w' ⟨rfl, rfl⟩
  cases hB18 : inB (-1) ((k : Int) - 1) (q : Int)
  ·
   replace hB18 := Lib.hid hB18
   go_wp2_with fail
   go_ret
   exact ⟨by rw [show expB cells es k = false from (by unfold expB; rw [hX8.out]; dsimp only; rw [hB18.out]; simp <;> omega)] <;> rfl, qXt⟩
  ·
   replace hB18 := Lib.hid hB18
   have hin7 : -1 ≤ (q : Int) ∧ (q : Int) ≤ (k : Int) - 1 := by have h7 := hB18.out; unfold inB at h7; simpa using h7
   go_wp2_with fail
   refine (validView_c B4 (.slice u9 S5.length c10) (.slice u11 T6.length c12) S5 T6 _ _ _ (i13.ext qXt) (i14.ext qXt)).mono ?_
   rintro e w1 ⟨rfl, xw1⟩
   have Lw1 : Ext w w1 := Ext.trans qXt xw1
   have Xw1 : Ext w w1 := Lw1
   have b10 : w1.cell? ⟨w.heap.size, 0, none⟩ = some (.slice p0 cells.length c0) := xw1.cell qCl
   have b11 : w1.cell? ⟨w.heap.size, 1, none⟩ = some (.slice (some ⟨bl15, ol16, none⟩) es.length c1) := xw1.cell qCl
   replace x20 := Lw1.cell x20
   replace x21 := Lw1.cell x21
   replace x22 := Lw1.cell x22
   replace x23 := Lw1.cell x23
   replace x24 := Lw1.cell x24
   have b170 : w1.cell? ⟨w.heap.size + 1, 0, none⟩ = some (.int .i64 (q : Int)) := xw1.cell qCl
   have b171 : w1.cell? ⟨w.heap.size + 1, 1, none⟩ = some (.int .i64 B4) := xw1.cell qCl
   have b172 : w1.cell? ⟨w.heap.size + 1, 2, none⟩ = some (.slice u9 S5.length c10) := xw1.cell qCl
   have b173 : w1.cell? ⟨w.heap.size + 1, 3, none⟩ = some (.slice u11 T6.length c12) := xw1.cell qCl
   have b174 : w1.cell? ⟨w.heap.size + 1, 4, none⟩ = some (.bool false) := xw1.cell qCl
   have z_b1 : w.heap.size < w1.heap.size := qB b10
   have z_x2 : bl15 < w1.heap.size := qB x20
   have z_b17 : w.heap.size + 1 < w1.heap.size := qB b170
   replace i13 := i13.ext Lw1
   replace i14 := i14.ext Lw1
   have s_w1 : w.heap.size ≤ w1.heap.size := Xw1.size
   clear xw1
   cases hB19 : viewB B4 S5 T6
   ·
    replace hB19 := Lib.hid hB19
    go_wp2_with fail
    go_ret
    exact ⟨by rw [show expB cells es k = false from (by unfold expB; rw [hX8.out]; dsimp only; rw [hB18.out]; rw [hB19.out]; simp <;> omega)] <;> rfl, (Xw1.trans qXt)⟩
   ·
    replace hB19 := Lib.hid hB19
    go_wp2_with fail
    go_ret
    exact ⟨by rw [show expB cells es k = true from (by unfold expB; rw [hX8.out]; dsimp only; rw [hB18.out]; rw [hB19.out]; simp <;> omega)] <;> rfl, (Xw1.trans qXt)⟩
 ·
  go_wp2_with fail
  refine (inRange_c (q : Int) (-1) ((k : Int) - 1) _).mono ?_
  rintro e w' ⟨rfl, rfl⟩
  cases hB21 : inB (-1) ((k : Int) - 1) (q : Int)
  ·
   replace hB21 := Lib.hid hB21
   go_wp2_with fail
   go_ret
   exact ⟨by rw [show expB cells es k = false from (by unfold expB; rw [hX8.out]; dsimp only; rw [hB21.out]; simp <;> omega)] <;> rfl, qXt⟩
  ·
   replace hB21 := Lib.hid hB21
   have hin7 : -1 ≤ (q : Int) ∧ (q : Int) ≤ (k : Int) - 1 := by have h7 := hB21.out; unfold inB at h7; simpa using h7
   go_wp2_with fail
   refine (validView_c B4 (.slice u9 S5.length c10) (.slice u11 T6.length c12) S5 T6 _ _ _ (i13.ext qXt) (i14.ext qXt)).mono ?_
   rintro e w1 ⟨rfl, xw1⟩
   have Lw1 : Ext w w1 := Ext.trans qXt xw1
   have Xw1 : Ext w w1 := Lw1
   have b10 : w1.cell? ⟨w.heap.size, 0, none⟩ = some (.slice p0 cells.length c0) := xw1.cell qCl
   have b11 : w1.cell? ⟨w.heap.size, 1, none⟩ = some (.slice (some ⟨bl15, ol16, none⟩) es.length c1) := xw1.cell qCl
   replace x20 := Lw1.cell x20
   replace x21 := Lw1.cell x21
   replace x22 := Lw1.cell x22
   replace x23 := Lw1.cell x23
   replace x24 := Lw1.cell x24
   have b200 : w1.cell? ⟨w.heap.size + 1, 0, none⟩ = some (.int .i64 (q : Int)) := xw1.cell qCl
   have b201 : w1.cell? ⟨w.heap.size + 1, 1, none⟩ = some (.int .i64 B4) := xw1.cell qCl
   have b202 : w1.cell? ⟨w.heap.size + 1, 2, none⟩ = some (.slice u9 S5.length c10) := xw1.cell qCl
   have b203 : w1.cell? ⟨w.heap.size + 1, 3, none⟩ = some (.slice u11 T6.length c12) := xw1.cell qCl
   have b204 : w1.cell? ⟨w.heap.size + 1, 4, none⟩ = some (.bool true) := xw1.cell qCl
   have z_b1 : w.heap.size < w1.heap.size := qB b10
   have z_x2 : bl15 < w1.heap.size := qB x20
   have z_b20 : w.heap.size + 1 < w1.heap.size := qB b200
   replace i13 := i13.ext Lw1
   replace i14 := i14.ext Lw1
   have s_w1 : w.heap.size ≤ w1.heap.size := Xw1.size
   clear xw1
   cases hB22 : viewB B4 S5 T6
   ·
    replace hB22 := Lib.hid hB22
    go_wp2_with fail
    go_ret
    exact ⟨by rw [show expB cells es k = false from (by unfold expB; rw [hX8.out]; dsimp only; rw [hB21.out]; rw [hB22.out]; simp <;> omega)] <;> rfl, (Xw1.trans qXt)⟩
   ·
    replace hB22 := Lib.hid hB22
    go_wp2_with fail
    refine (fits_c B4 (.slice u9 S5.length c10) (.slice u11 T6.length c12) S5 T6 (cells.length : Int) _ _ _ (i13.ext qXt) (i14.ext qXt) hB22.out (by first | omega | exact (vw hB22.out).1 | exact (vw hB22.out).2.1 | exact (vw hB22.out).2.2.1 | exact (vw hB22.out).2.2.2) (by first | omega | exact (vw hB22.out).1 | exact (vw hB22.out).2.1 | exact (vw hB22.out).2.2.1 | exact (vw hB22.out).2.2.2)).mono ?_
    rintro e w2 ⟨rfl, xw2⟩
    have Lw2 : Ext w1 w2 := Ext.trans qXt xw2
    have Xw2 : Ext w w2 := Xw1.trans Lw2
    replace b10 := Lw2.cell b10
    replace b11 := Lw2.cell b11
    replace x20 := Lw2.cell x20
    replace x21 := Lw2.cell x21
    replace x22 := Lw2.cell x22
    replace x23 := Lw2.cell x23
    replace x24 := Lw2.cell x24
    replace b200 := Lw2.cell b200
    replace b201 := Lw2.cell b201
    replace b202 := Lw2.cell b202
    replace b203 := Lw2.cell b203
    replace b204 := Lw2.cell b204
    have z_b1 : w.heap.size < w2.heap.size := qB b10
    have z_x2 : bl15 < w2.heap.size := qB x20
    have z_b20 : w.heap.size + 1 < w2.heap.size := qB b200
    replace i13 := i13.ext Lw2
    replace i14 := i14.ext Lw2
    have s_w2 : w.heap.size ≤ w2.heap.size := Xw2.size
    clear xw2
    cases hB23 : fitB B4 S5 T6 (cells.length : Int)
    ·
     replace hB23 := Lib.hid hB23
     go_wp2_with fail
     go_ret
     exact ⟨by rw [show expB cells es k = false from (by unfold expB; rw [hX8.out]; dsimp only; rw [hB21.out]; rw [hB22.out]; rw [hB23.out]; simp <;> omega)] <;> rfl, (Xw2.trans qXt)⟩
    ·
     replace hB23 := Lib.hid hB23
     have hq24 : ¬ ((q : Int) < (0 : Int)) := (by omega)
     have hN_x25 : q < es.length := (by omega)
     have hI_x25 : (q : Int) < (es.length : Int) := by omega
     obtain ⟨b_x25, o_x25, u32, c33, u34, c35, h_x25, x250, x251, x252, x253, x254, i36, i37⟩ := (h2.ext Xw2).at q hN_x25
     cases h_x25
     obtain ⟨X31, hX31⟩ : ∃ x, expAt es q = x := ⟨_, rfl⟩
     rw [hX31] at x250 x251 x252 x253 x254 i36 i37
     obtain ⟨P26, B27, S28, T29, O30⟩ := X31
     dsimp only at x250 x251 x252 x253 x254 i36 i37
     replace hX31 := Lib.hid hX31
     have z_x25 : bl15 < w2.heap.size := qB x250
     cases O30
     ·
      go_wp2_with fail
      go_ret
      exact ⟨by rw [show expB cells es k = false from (by unfold expB; rw [hX8.out]; dsimp only; rw [hB21.out]; rw [hB22.out]; rw [hB23.out]; simp [hX31.out] <;> omega)] <;> rfl, (Xw2.trans qXt)⟩
     ·
      go_wp2_with fail
      go_ret
      exact ⟨by rw [show expB cells es k = true from (by unfold expB; rw [hX8.out]; dsimp only; rw [hB21.out]; rw [hB22.out]; rw [hB23.out]; simp [hX31.out] <;> omega)] <;> rfl, (Xw2.trans qXt)⟩

set_option maxHeartbeats 3200000 in
theorem vexp_1 (cells : List Int) (es : List Exp) (cv ev : Value) (k : Nat) (w : World) (l1 l2 : Nat) (h1 : Ints w l1 cv cells) (h2 : Exps w l2 ev es) (hlt : k < es.length) (hpar : ¬ 0 ≤ (expAt es k).par) :
  Calls Try.prog 116 #[.agg #[cv, ev], .int .i64 (k : Int)] w (fun e w' => e = .returned (.bool (expB cells es k)) ∧ Ext w w') := by
 obtain ⟨p0, c0, rfl⟩ := h1.form
 obtain ⟨p1, c1, rfl⟩ := h2.form
 have he1 := h2.len
 have hc1 := h1.len
 go_enter Try.func116, Try.ntmps116
 have hN_x2 : k < es.length := (by omega)
 have hI_x2 : (k : Int) < (es.length : Int) := by omega
 obtain ⟨bl15, ol16, u9, c10, u11, c12, rfl, x20, x21, x22, x23, x24, i13, i14⟩ := h2.at k hN_x2
 obtain ⟨X8, hX8⟩ : ∃ x, expAt es k = x := ⟨_, rfl⟩
 rw [hX8] at x20 x21 x22 x23 x24 i13 i14
 obtain ⟨P3, B4, S5, T6, O7⟩ := X8
 dsimp only at x20 x21 x22 x23 x24 i13 i14
 replace hX8 := Lib.hid hX8
 have z_x2 : bl15 < w.heap.size := qB x20
 cases O7
 ·
  go_wp2_with fail
  refine (inRange_c P3 (-1) ((k : Int) - 1) _).mono ?_
  rintro e w' ⟨rfl, rfl⟩
  cases hB18 : inB (-1) ((k : Int) - 1) P3
  ·
   replace hB18 := Lib.hid hB18
   go_wp2_with fail
   go_ret
   exact ⟨by rw [show expB cells es k = false from (by unfold expB; rw [hX8.out]; dsimp only; rw [hB18.out]; simp <;> omega)] <;> rfl, qXt⟩
  ·
   replace hB18 := Lib.hid hB18
   have hin7 : -1 ≤ P3 ∧ P3 ≤ (k : Int) - 1 := by have h7 := hB18.out; unfold inB at h7; simpa using h7
   go_wp2_with fail
   refine (validView_c B4 (.slice u9 S5.length c10) (.slice u11 T6.length c12) S5 T6 _ _ _ (i13.ext qXt) (i14.ext qXt)).mono ?_
   rintro e w1 ⟨rfl, xw1⟩
   have Lw1 : Ext w w1 := Ext.trans qXt xw1
   have Xw1 : Ext w w1 := Lw1
   have b10 : w1.cell? ⟨w.heap.size, 0, none⟩ = some (.slice p0 cells.length c0) := xw1.cell qCl
   have b11 : w1.cell? ⟨w.heap.size, 1, none⟩ = some (.slice (some ⟨bl15, ol16, none⟩) es.length c1) := xw1.cell qCl
   replace x20 := Lw1.cell x20
   replace x21 := Lw1.cell x21
   replace x22 := Lw1.cell x22
   replace x23 := Lw1.cell x23
   replace x24 := Lw1.cell x24
   have b170 : w1.cell? ⟨w.heap.size + 1, 0, none⟩ = some (.int .i64 P3) := xw1.cell qCl
   have b171 : w1.cell? ⟨w.heap.size + 1, 1, none⟩ = some (.int .i64 B4) := xw1.cell qCl
   have b172 : w1.cell? ⟨w.heap.size + 1, 2, none⟩ = some (.slice u9 S5.length c10) := xw1.cell qCl
   have b173 : w1.cell? ⟨w.heap.size + 1, 3, none⟩ = some (.slice u11 T6.length c12) := xw1.cell qCl
   have b174 : w1.cell? ⟨w.heap.size + 1, 4, none⟩ = some (.bool false) := xw1.cell qCl
   have z_b1 : w.heap.size < w1.heap.size := qB b10
   have z_x2 : bl15 < w1.heap.size := qB x20
   have z_b17 : w.heap.size + 1 < w1.heap.size := qB b170
   replace i13 := i13.ext Lw1
   replace i14 := i14.ext Lw1
   have s_w1 : w.heap.size ≤ w1.heap.size := Xw1.size
   clear xw1
   cases hB19 : viewB B4 S5 T6
   ·
    replace hB19 := Lib.hid hB19
    go_wp2_with fail
    go_ret
    exact ⟨by rw [show expB cells es k = false from (by unfold expB; rw [hX8.out]; dsimp only; rw [hB18.out]; rw [hB19.out]; simp <;> omega)] <;> rfl, (Xw1.trans qXt)⟩
   ·
    replace hB19 := Lib.hid hB19
    go_wp2_with fail
    go_ret
    exact ⟨by rw [show expB cells es k = true from (by unfold expB; rw [hX8.out]; dsimp only; rw [hB18.out]; rw [hB19.out]; simp <;> omega)] <;> rfl, (Xw1.trans qXt)⟩
 ·
  go_wp2_with fail
  refine (inRange_c P3 (-1) ((k : Int) - 1) _).mono ?_
  rintro e w' ⟨rfl, rfl⟩
  cases hB21 : inB (-1) ((k : Int) - 1) P3
  ·
   replace hB21 := Lib.hid hB21
   go_wp2_with fail
   go_ret
   exact ⟨by rw [show expB cells es k = false from (by unfold expB; rw [hX8.out]; dsimp only; rw [hB21.out]; simp <;> omega)] <;> rfl, qXt⟩
  ·
   replace hB21 := Lib.hid hB21
   have hin7 : -1 ≤ P3 ∧ P3 ≤ (k : Int) - 1 := by have h7 := hB21.out; unfold inB at h7; simpa using h7
   go_wp2_with fail
   refine (validView_c B4 (.slice u9 S5.length c10) (.slice u11 T6.length c12) S5 T6 _ _ _ (i13.ext qXt) (i14.ext qXt)).mono ?_
   rintro e w1 ⟨rfl, xw1⟩
   have Lw1 : Ext w w1 := Ext.trans qXt xw1
   have Xw1 : Ext w w1 := Lw1
   have b10 : w1.cell? ⟨w.heap.size, 0, none⟩ = some (.slice p0 cells.length c0) := xw1.cell qCl
   have b11 : w1.cell? ⟨w.heap.size, 1, none⟩ = some (.slice (some ⟨bl15, ol16, none⟩) es.length c1) := xw1.cell qCl
   replace x20 := Lw1.cell x20
   replace x21 := Lw1.cell x21
   replace x22 := Lw1.cell x22
   replace x23 := Lw1.cell x23
   replace x24 := Lw1.cell x24
   have b200 : w1.cell? ⟨w.heap.size + 1, 0, none⟩ = some (.int .i64 P3) := xw1.cell qCl
   have b201 : w1.cell? ⟨w.heap.size + 1, 1, none⟩ = some (.int .i64 B4) := xw1.cell qCl
   have b202 : w1.cell? ⟨w.heap.size + 1, 2, none⟩ = some (.slice u9 S5.length c10) := xw1.cell qCl
   have b203 : w1.cell? ⟨w.heap.size + 1, 3, none⟩ = some (.slice u11 T6.length c12) := xw1.cell qCl
   have b204 : w1.cell? ⟨w.heap.size + 1, 4, none⟩ = some (.bool true) := xw1.cell qCl
   have z_b1 : w.heap.size < w1.heap.size := qB b10
   have z_x2 : bl15 < w1.heap.size := qB x20
   have z_b20 : w.heap.size + 1 < w1.heap.size := qB b200
   replace i13 := i13.ext Lw1
   replace i14 := i14.ext Lw1
   have s_w1 : w.heap.size ≤ w1.heap.size := Xw1.size
   clear xw1
   cases hB22 : viewB B4 S5 T6
   ·
    replace hB22 := Lib.hid hB22
    go_wp2_with fail
    go_ret
    exact ⟨by rw [show expB cells es k = false from (by unfold expB; rw [hX8.out]; dsimp only; rw [hB21.out]; rw [hB22.out]; simp <;> omega)] <;> rfl, (Xw1.trans qXt)⟩
   ·
    replace hB22 := Lib.hid hB22
    go_wp2_with fail
    refine (fits_c B4 (.slice u9 S5.length c10) (.slice u11 T6.length c12) S5 T6 (cells.length : Int) _ _ _ (i13.ext qXt) (i14.ext qXt) hB22.out (by first | omega | exact (vw hB22.out).1 | exact (vw hB22.out).2.1 | exact (vw hB22.out).2.2.1 | exact (vw hB22.out).2.2.2) (by first | omega | exact (vw hB22.out).1 | exact (vw hB22.out).2.1 | exact (vw hB22.out).2.2.1 | exact (vw hB22.out).2.2.2)).mono ?_
    rintro e w2 ⟨rfl, xw2⟩
    have Lw2 : Ext w1 w2 := Ext.trans qXt xw2
    have Xw2 : Ext w w2 := Xw1.trans Lw2
    replace b10 := Lw2.cell b10
    replace b11 := Lw2.cell b11
    replace x20 := Lw2.cell x20
    replace x21 := Lw2.cell x21
    replace x22 := Lw2.cell x22
    replace x23 := Lw2.cell x23
    replace x24 := Lw2.cell x24
    replace b200 := Lw2.cell b200
    replace b201 := Lw2.cell b201
    replace b202 := Lw2.cell b202
    replace b203 := Lw2.cell b203
    replace b204 := Lw2.cell b204
    have z_b1 : w.heap.size < w2.heap.size := qB b10
    have z_x2 : bl15 < w2.heap.size := qB x20
    have z_b20 : w.heap.size + 1 < w2.heap.size := qB b200
    replace i13 := i13.ext Lw2
    replace i14 := i14.ext Lw2
    have s_w2 : w.heap.size ≤ w2.heap.size := Xw2.size
    clear xw2
    cases hB23 : fitB B4 S5 T6 (cells.length : Int)
    ·
     replace hB23 := Lib.hid hB23
     go_wp2_with fail
     go_ret
     exact ⟨by rw [show expB cells es k = false from (by unfold expB; rw [hX8.out]; dsimp only; rw [hB21.out]; rw [hB22.out]; rw [hB23.out]; simp <;> omega)] <;> rfl, (Xw2.trans qXt)⟩
    ·
     replace hB23 := Lib.hid hB23
     have hq24 : (P3 : Int) < (0 : Int) := (by have h7 := hpar; rw [hX8.out] at h7; dsimp only at h7; omega)
     go_wp2_with fail
     go_ret
     exact ⟨by rw [show expB cells es k = true from (by unfold expB; rw [hX8.out]; dsimp only; rw [hB21.out]; rw [hB22.out]; rw [hB23.out]; simp <;> omega)] <;> rfl, (Xw2.trans qXt)⟩

set_option maxHeartbeats 1600000 in
theorem validExport_c (cells : List Int) (es : List Exp) (cv ev : Value) (k : Nat) (w : World) (l1 l2 : Nat) (h1 : Ints w l1 cv cells) (h2 : Exps w l2 ev es) (hlt : k < es.length) :
  Calls Try.prog 116 #[.agg #[cv, ev], .int .i64 (k : Int)] w (fun e w' => e = .returned (.bool (expB cells es k)) ∧ Ext w w') := by
 by_cases hpar : 0 ≤ (expAt es k).par
 ·
  exact vexp_0 cells es cv ev k w l1 l2 h1 h2 hlt hpar
 ·
  exact vexp_1 cells es cv ev k w l1 l2 h1 h2 hlt hpar

set_option maxHeartbeats 3200000 in
theorem validBuffer_c (cells : List Int) (es : List Exp) (cv ev : Value) (w : World) (l1 l2 : Nat) (h1 : Ints w l1 cv cells) (h2 : Exps w l2 ev es) :
  Calls Try.prog 61 #[.agg #[cv, ev]] w (fun e w' => e = .returned (.bool (bufB cells es)) ∧ Ext w w') := by
 obtain ⟨p0, c0, rfl⟩ := h1.form
 obtain ⟨p1, c1, rfl⟩ := h2.form
 have he1 := h2.len
 have hc1 := h1.len
 go_enter Try.func61, Try.ntmps61
 go_wp2_with fail
 generalize hW1 : w.alloc (.cells #[.slice p0 cells.length c0, .slice p1 es.length c1] 32) = w1 at *
 have Lw1 : Ext w w1 := by subst hW1; exact qXt
 have Xw1 : Ext w w1 := by subst hW1; exact Lw1
 have b10 : w1.cell? ⟨w.heap.size, 0, none⟩ = some (.slice p0 cells.length c0) := by subst hW1; exact qCl
 have b11 : w1.cell? ⟨w.heap.size, 1, none⟩ = some (.slice p1 es.length c1) := by subst hW1; exact qCl
 have z_b1 : w.heap.size < w1.heap.size := qB b10
 have s_w1 : w.heap.size ≤ w1.heap.size := Xw1.size
 clear hW1
 go_loopw [3] (fun i wr => ∃ (k : Nat), k ≤ es.length ∧ i = .int .i64 k ∧ Hid (expsB cells es k = true) ∧ Ext w1 wr) (fun i _ => es.length - (intOf i).toNat)
 case atStart => exact ⟨0, Nat.zero_le _, rfl, Lib.hid rfl, qXt⟩
 case round =>
  obtain ⟨k, hk, rfl, ht, Lwr⟩ := hrel
  have Xwr : Ext w wr := Xw1.trans Lwr
  have s_wr : w.heap.size ≤ wr.heap.size := Xwr.size
  have t_wr : w1.heap.size ≤ wr.heap.size := Lwr.size
  replace b10 := Lwr.cell b10
  replace b11 := Lwr.cell b11
  have z_b1 : w.heap.size < wr.heap.size := qB b10
  have Bwr : Ext w1 wr := Lwr
  by_cases hlt : k < es.length
  ·
   have hkI : (k : Int) < es.length := by omega
   go_wp2_with fail
   refine (validExport_c cells es (.slice p0 cells.length c0) (.slice p1 es.length c1) k _ _ _ (h1.ext (Xwr.trans qXt)) (h2.ext (Xwr.trans qXt)) hlt).mono ?_
   rintro e w2 ⟨rfl, xw2⟩
   have Lw2 : Ext wr w2 := Ext.trans qXt xw2
   have Xw2 : Ext w w2 := Xwr.trans Lw2
   replace b10 := Lw2.cell b10
   replace b11 := Lw2.cell b11
   have z_b1 : w.heap.size < w2.heap.size := qB b10
   have s_w2 : w.heap.size ≤ w2.heap.size := Xw2.size
   have Bwr_w2 : Ext w1 w2 := Bwr.trans Lw2
   clear xw2
   cases hB2 : expB cells es k
   ·
    replace hB2 := Lib.hid hB2
    go_wp2_with fail
    go_ret
    exact ⟨by rw [show bufB cells es = false from by unfold bufB; rw [expsB_no hlt hB2.out]; simp] <;> rfl, (Xw2.trans qXt)⟩
   ·
    replace hB2 := Lib.hid hB2
    go_wp2_with fail
    go_roundw
    case rel => exact ⟨k + 1, by omega, by go_num, Lib.hid (by rw [expsB_succ, ht.out, hB2.out]; rfl), (Bwr_w2.trans qXt)⟩
    case measure => simp [intOf]; omega
  ·
   obtain rfl : k = es.length := by omega
   have hkI : ¬ (es.length : Int) < es.length := by omega
   go_wp2_with fail
   refine (validMemory_c cells (.slice p0 cells.length c0) _ _ (h1.ext (Xwr.trans qXt))).mono ?_
   rintro e w' ⟨rfl, rfl⟩
   cases hB3 : memB cells
   ·
    replace hB3 := Lib.hid hB3
    go_wp2_with fail
    go_ret
    exact ⟨by rw [show bufB cells es = false from by unfold bufB; rw [hB3.out]; rfl] <;> rfl, (Xwr.trans qXt)⟩
   ·
    replace hB3 := Lib.hid hB3
    by_cases hc4 : (es.length : Int) ≤ (8 : Int)
    ·
     go_wp2_with fail
     go_ret
     exact ⟨by rw [show bufB cells es = true from by unfold bufB; rw [hB3.out, ht.out, decide_eq_true (by omega)]; rfl] <;> rfl, (Xwr.trans qXt)⟩
    ·
     go_wp2_with fail
     go_ret
     exact ⟨by rw [show bufB cells es = decide ((es.length : Int) ≤ 8) from by unfold bufB; rw [hB3.out, ht.out, Bool.and_true, Bool.true_and]; exact decide_eq_decide.2 (by omega)] <;> rfl, (Xwr.trans qXt)⟩


end Go.Proofs.Ytfbbnbpobojboaa

/- Walks: open exports. -/
namespace Go.Proofs.Ytfbbnbpobojboaa
open Go.RowKit
set_option linter.unusedVariables false
set_option maxRecDepth 100000


end Go.Proofs.Ytfbbnbpobojboaa

/- Walks: OffsetsOf and IsRow of the program and of the reference. -/
namespace Go.Proofs.Ytfbbnbpobojboaa
open Go.RowKit
set_option linter.unusedVariables false
set_option maxRecDepth 100000


end Go.Proofs.Ytfbbnbpobojboaa

/- Walks: rowStrides of the program. -/
namespace Go.Proofs.Ytfbbnbpobojboaa
open Go.RowKit
set_option linter.unusedVariables false
set_option maxRecDepth 100000

end Go.Proofs.Ytfbbnbpobojboaa

/- Helpers of the laws: equal lists, equal views, a number in a list. -/
namespace Go.Proofs.Ytfbbnbpobojboaa
open Go.RowKit
set_option linter.unusedVariables false
set_option maxRecDepth 100000



end Go.Proofs.Ytfbbnbpobojboaa

/- Walks: helpers of the laws. -/
namespace Go.Proofs.Ytfbbnbpobojboaa
open Go.RowKit
set_option linter.unusedVariables false
set_option maxRecDepth 100000

end Go.Proofs.Ytfbbnbpobojboaa

/- Walks: LoadView of the program and of the reference. -/
namespace Go.Proofs.Ytfbbnbpobojboaa
open Go.RowKit
set_option linter.unusedVariables false
set_option maxRecDepth 100000


theorem PInts.no {w w' : World} (h : Ext w w') : PInts w [] (.returned (.slice none 0 0)) w' :=
  ⟨_, rfl, Ints.nil _ _ _ _ (by simp) (fun _ => rfl), .inl ⟨rfl, none, 0, rfl, by simp, fun _ => rfl⟩, h⟩

end Go.Proofs.Ytfbbnbpobojboaa

/- Plain laws on memories: what is stored last stays, what is added, sums. -/
namespace Go.Proofs.Ytfbbnbpobojboaa
open Go.RowKit
set_option linter.unusedVariables false
set_option maxRecDepth 100000

/-- additions one by one -/
def addUp (mem ix vs : List Int) (k : Nat) : List Int := (List.range k).foldl (fun m i => m.set (ix.getD i 0).toNat ((m.getD (ix.getD i 0).toNat 0 + vs.getD i 0) % 256)) mem
theorem addUp_succ (mem ix vs : List Int) (k : Nat) : addUp mem ix vs (k+1) = (addUp mem ix vs k).set (ix.getD k 0).toNat (((addUp mem ix vs k).getD (ix.getD k 0).toNat 0 + vs.getD k 0) % 256) := by
  unfold addUp; rw [List.range_succ, List.foldl_append]; rfl
theorem addUp_len (mem ix vs : List Int) (k : Nat) : (addUp mem ix vs k).length = mem.length := by
  induction k with
  | zero => rfl
  | succ k ih => rw [addUp_succ, List.length_set, ih]
end Go.Proofs.Ytfbbnbpobojboaa

/- Walks: indices, ranks, rows, sums. -/
namespace Go.Proofs.Ytfbbnbpobojboaa
open Go.RowKit
set_option linter.unusedVariables false
set_option maxRecDepth 100000


theorem vw {b : Int} {s t : List Int} (h : viewB b s t = true) : s.length ≤ t.length ∧ (0 < countL s → ∀ e ∈ s, 1 ≤ e) ∧ countL s ≤ 1000000 ∧ Small s := by
  obtain ⟨h1, h2, h3, h4, h5⟩ := viewB_in h
  have h6 := shapeB_in h1
  exact ⟨by omega, h6.2.2.2.2, by omega, Small.of h1⟩
theorem sh {s : List Int} (h : shapeB s = true) : Small s ∧ (0 < countL s → ∀ e ∈ s, 1 ≤ e) ∧ countL s ≤ 1000000 := by
  have h6 := shapeB_in h
  exact ⟨Small.of h, h6.2.2.2.2, by omega⟩
/-- the first k numbers are within the extents -/
def OkTo (s r : List Int) (k : Nat) : Prop := ∀ j, j < k → 0 ≤ r.getD j 0 ∧ r.getD j 0 < s.getD j 0
theorem OkTo.zero (s r : List Int) : OkTo s r 0 := fun j h => absurd h (by omega)
theorem OkTo.succ {s r : List Int} {k : Nat} (h : OkTo s r k) {x e : Int} (hx : r.getD k 0 = x) (he : s.getD k 0 = e) (h1 : 0 ≤ x) (h2 : x < e) : OkTo s r (k+1) := fun j hj => by
  by_cases hjk : j = k
  · subst hjk; rw [hx, he]; exact ⟨h1, h2⟩
  · exact h j (by omega)
end Go.Proofs.Ytfbbnbpobojboaa

/- Walks: ranks, indices, rows, sums. -/
namespace Go.Proofs.Ytfbbnbpobojboaa
open Go.RowKit
set_option linter.unusedVariables false
set_option maxRecDepth 100000


end Go.Proofs.Ytfbbnbpobojboaa

/- Walks: open exports, kids. -/
namespace Go.Proofs.Ytfbbnbpobojboaa
open Go.RowKit
set_option linter.unusedVariables false
set_option maxRecDepth 100000


/-- the numbers, below k, of the exports of a kind -/
def selL (p : Exp → Bool) (es : List Exp) (k : Nat) : List Int := ((List.range k).filter fun i => p (expAt es i)).map fun i : Nat => (i : Int)
theorem selL_yes {p : Exp → Bool} {es : List Exp} {k : Nat} (h : p (expAt es k) = true) : selL p es (k+1) = selL p es k ++ [(k : Int)] := by
  unfold selL; rw [List.range_succ, List.filter_append, List.map_append, List.filter_cons_of_pos (by simpa using h)]; rfl
theorem selL_no {p : Exp → Bool} {es : List Exp} {k : Nat} (h : p (expAt es k) = false) : selL p es (k+1) = selL p es k := by
  unfold selL; rw [List.range_succ, List.filter_append, List.map_append, List.filter_cons_of_neg (by simp [h])]; simp
theorem selL_len (p : Exp → Bool) (es : List Exp) (k : Nat) : (selL p es k).length ≤ k := by
  unfold selL; rw [List.length_map]; exact Nat.le_trans (List.length_filter_le _ _) (by simp)
def opP (e : Exp) : Bool := e.op
/-- OpenOf -/
def openA (cells : List Int) (es : List Exp) : List Int := if bufB cells es then selL opP es es.length else []
set_option maxHeartbeats 3200000 in
theorem implOpenOf_c (cells : List Int) (es : List Exp) (cv ev : Value) (w : World) (l1 l2 : Nat) (h1 : Ints w l1 cv cells) (h2 : Exps w l2 ev es) :
    Calls Try.prog 89 #[.agg #[cv, ev]] w (PInts w (openA cells es)) := by
  obtain ⟨p0, c0, rfl⟩ := h1.form
  obtain ⟨p1, c1, rfl⟩ := h2.form
  have he1 := h2.len
  have hc1 := h1.len
  go_enter Try.func89, Try.ntmps89
  go_wp2_with fail
  refine (isBuffer_c cells es (.slice p0 cells.length c0) (.slice p1 es.length c1) _ _ _ (h1.ext qXt) (h2.ext qXt)).mono ?_
  rintro e w1 ⟨rfl, xw1⟩
  have Lw1 : Ext w w1 := Ext.trans qXt xw1
  have Xw1 : Ext w w1 := Lw1
  have b10 : w1.cell? ⟨w.heap.size, 0, none⟩ = some (.slice p0 cells.length c0) := xw1.cell qCl
  have b11 : w1.cell? ⟨w.heap.size, 1, none⟩ = some (.slice p1 es.length c1) := xw1.cell qCl
  have z_b1 : w.heap.size < w1.heap.size := qB b10
  have s_w1 : w.heap.size ≤ w1.heap.size := Xw1.size
  clear xw1
  cases hB2 : bufB cells es
  · replace hB2 := Lib.hid hB2
    go_wp2_with fail
    go_ret
    rw [show openA cells es = [] by unfold openA; rw [hB2.out]; rfl]
    exact PInts.no (Xw1.trans qXt)
  · replace hB2 := Lib.hid hB2
    go_wp2_with fail
    have Q3_b10 := Lib.hid b10
    have Q3_b11 := Lib.hid b11
    have Q3_zb1 := z_b1
    have BL4 : Ext w1 w1 := Ext.refl _
    have zG_BL4 := (BL4).size
    skip
    go_loopw [3, 13] (fun gv i wr => ∃ (k : Nat), k ≤ es.length ∧ i = .int .i64 k ∧ OwnI wr w1.heap.size gv (selL (opP) es k) ∧ Ext w1 wr) (fun _ i _ => es.length - (intOf i).toNat)
    case atStart => exact ⟨0, Nat.zero_le _, rfl, (by rw [show selL (opP) es 0 = [] from rfl]; exact (OwnI.lit0 w1 w1.heap.size (Nat.le_refl _))), qXt⟩
    case round =>
      obtain ⟨k, hk, rfl, OG, Lwr⟩ := hrel
      have Xwr : Ext w wr := Xw1.trans Lwr
      have s_wr : w.heap.size ≤ wr.heap.size := Xwr.size
      have t_wr : w1.heap.size ≤ wr.heap.size := Lwr.size
      replace b10 := Lwr.cell b10
      replace b11 := Lwr.cell b11
      have z_b1 : w.heap.size < wr.heap.size := qB b10
      have BL4_wr : Ext w1 wr := BL4.trans Lwr
      have Bwr : Ext w1 wr := Lwr
      obtain ⟨ga6, gc7, rfl⟩ := (OG.ints (by have := (show (selL (opP) es k).length ≤ 1048576 by have := selL_len (opP) es k; omega); omega)).form
      have OG5 := OG
      clear OG
      by_cases hlt : k < es.length
      · have hkI : (k : Int) < es.length := by omega
        have hN_x8 : k < es.length := (by omega)
        have hI_x8 : (k : Int) < (es.length : Int) := by omega
        obtain ⟨bl21, ol22, u15, c16, u17, c18, rfl, x80, x81, x82, x83, x84, i19, i20⟩ := (h2.ext Xwr).at k hN_x8
        obtain ⟨X14, hX14⟩ : ∃ x, expAt es k = x := ⟨_, rfl⟩
        rw [hX14] at x80 x81 x82 x83 x84 i19 i20
        obtain ⟨P9, B10, S11, T12, O13⟩ := X14
        dsimp only at x80 x81 x82 x83 x84 i19 i20
        replace hX14 := Lib.hid hX14
        have z_x8 : bl21 < wr.heap.size := qB x80
        cases O13
        · go_wp2_with fail
          go_roundw
          case rel => exact ⟨k + 1, by omega, by go_num, (by rw [selL_no (by rw [hX14.out]; rfl)]; exact OG5.ext qXt), (Bwr.trans qXt)⟩
          case measure => simp [intOf]; omega
        · go_upto_region 8 with fail
          generalize hW1 : wr.alloc (.cells #[.int .i64 P9, .int .i64 B10, .slice u15 S11.length c16, .slice u17 T12.length c18, .bool true] 89) = w2 at *
          have Lw2 : Ext wr w2 := by subst hW1; exact qXt
          have Xw2 : Ext w w2 := Xwr.trans Lw2
          replace b10 := Lw2.cell b10
          replace b11 := Lw2.cell b11
          replace x80 := Lw2.cell x80
          replace x81 := Lw2.cell x81
          replace x82 := Lw2.cell x82
          replace x83 := Lw2.cell x83
          replace x84 := Lw2.cell x84
          have b240 : w2.cell? ⟨wr.heap.size, 0, none⟩ = some (.int .i64 P9) := by subst hW1; exact qCl
          have b241 : w2.cell? ⟨wr.heap.size, 1, none⟩ = some (.int .i64 B10) := by subst hW1; exact qCl
          have b242 : w2.cell? ⟨wr.heap.size, 2, none⟩ = some (.slice u15 S11.length c16) := by subst hW1; exact qCl
          have b243 : w2.cell? ⟨wr.heap.size, 3, none⟩ = some (.slice u17 T12.length c18) := by subst hW1; exact qCl
          have b244 : w2.cell? ⟨wr.heap.size, 4, none⟩ = some (.bool true) := by subst hW1; exact qCl
          have z_b1 : w.heap.size < w2.heap.size := qB b10
          have z_x8 : bl21 < w2.heap.size := qB x80
          have z_b24 : wr.heap.size < w2.heap.size := qB b240
          replace OG5 := OG5.ext Lw2
          replace i19 := i19.ext Lw2
          replace i20 := i20.ext Lw2
          have s_w2 : w.heap.size ≤ w2.heap.size := Xw2.size
          have BL4_w2 : Ext w1 w2 := BL4_wr.trans Lw2
          have Bwr_w2 : Ext w1 w2 := Bwr.trans Lw2
          clear hW1
          have zGB := (Bwr_w2).size
          have EE : Ext w2 ((w2).alloc (.cells #[.int .i64 (k : Int)] 3)) := qXt
          have SS : Ints ((w2).alloc (.cells #[.int .i64 (k : Int)] 3)) 0 (.slice (some ⟨w2.heap.size, 0, none⟩) 1 1) [(k : Int)] := by simpa using Ints.one (w2) 0 (k : Int) (Nat.zero_le _)
          go_wp2_with (
            at_builtin
            refine wpList_app rfl (.tmp 20) (.tmp 22) rfl rfl rfl (by exact OG5.ext EE) (by exact SS) (by have := (show (selL (opP) es k).length ≤ 1048576 by have := selL_len (opP) es k; omega); simp only [List.length_append, List.length_cons, List.length_nil]; omega) (by simp <;> omega) ?_
            intro vw3 w3 ho hg7 hbl hv7
            clear hg7 hv7
            obtain ⟨ga25, rr26, rfl⟩ : ∃ a c, vw3 = .slice a ((selL (opP) es k).length + 1) c := by obtain ⟨a, c, h⟩ := (ho.ints (by simp only [List.length_append, List.length_cons, List.length_nil]; have := (show (selL (opP) es k).length ≤ 1048576 by have := selL_len (opP) es k; omega); omega)).form; exact ⟨a, c, by rw [h, List.length_append]; rfl⟩
            have Xw3 : Ext w w3 := Ext.below (Xw2.trans EE) hbl (by omega)
            have BL4_w3 : Ext w1 w3 := Ext.below (Ext.trans BL4_w2 EE) hbl (by omega)
            have Bwr_w3 : Ext w1 w3 := Ext.below (Ext.trans Bwr_w2 EE) hbl (by omega)
            clear b10 b11
            clear x80 x81 x82 x83 x84
            clear b240 b241 b242 b243 b244
            clear i19
            clear i20
            clear OG5
            have OG5 := ho
            clear ho hbl EE SS zGB
            have s_w3 : w.heap.size ≤ w3.heap.size := Xw3.size)
          go_wp2_with fail
          go_roundw
          case rel => exact ⟨k + 1, by omega, by go_num, (by rw [selL_yes (by rw [hX14.out]; rfl)]; exact OG5.ext qXt), (Bwr_w3.trans qXt)⟩
          case measure => simp [intOf]; omega
      · obtain rfl : k = es.length := by omega
        have hkI : ¬ (es.length : Int) < es.length := by omega
        go_wp2_with fail
        go_ret
        rw [show openA cells es = selL (opP) es es.length by unfold openA; rw [hB2.out]; rfl]
        exact PInts.mk OG5 (by omega) (by have := selL_len (opP) es es.length; omega) (Xwr.trans qXt)

set_option maxHeartbeats 3200000 in
theorem specOpenOf_c (cells : List Int) (es : List Exp) (cv ev : Value) (w : World) (l1 l2 : Nat) (h1 : Ints w l1 cv cells) (h2 : Exps w l2 ev es) :
    Calls Try.prog 87 #[.agg #[cv, ev]] w (PInts w (openA cells es)) := by
  obtain ⟨p0, c0, rfl⟩ := h1.form
  obtain ⟨p1, c1, rfl⟩ := h2.form
  have he1 := h2.len
  have hc1 := h1.len
  go_enter Try.func87, Try.ntmps87
  go_wp2_with fail
  refine (validBuffer_c cells es (.slice p0 cells.length c0) (.slice p1 es.length c1) _ _ _ (h1.ext qXt) (h2.ext qXt)).mono ?_
  rintro e w1 ⟨rfl, xw1⟩
  have Lw1 : Ext w w1 := Ext.trans qXt xw1
  have Xw1 : Ext w w1 := Lw1
  have b10 : w1.cell? ⟨w.heap.size, 0, none⟩ = some (.slice p0 cells.length c0) := xw1.cell qCl
  have b11 : w1.cell? ⟨w.heap.size, 1, none⟩ = some (.slice p1 es.length c1) := xw1.cell qCl
  have z_b1 : w.heap.size < w1.heap.size := qB b10
  have s_w1 : w.heap.size ≤ w1.heap.size := Xw1.size
  clear xw1
  cases hB2 : bufB cells es
  · replace hB2 := Lib.hid hB2
    go_wp2_with fail
    go_ret
    rw [show openA cells es = [] by unfold openA; rw [hB2.out]; rfl]
    exact PInts.no (Xw1.trans qXt)
  · replace hB2 := Lib.hid hB2
    go_wp2_with fail
    have Q3_b10 := Lib.hid b10
    have Q3_b11 := Lib.hid b11
    have Q3_zb1 := z_b1
    have BL4 : Ext w1 w1 := Ext.refl _
    have zG_BL4 := (BL4).size
    skip
    go_loopw [3, 4] (fun gv i wr => ∃ (k : Nat), k ≤ es.length ∧ i = .int .i64 k ∧ OwnI wr w1.heap.size gv (selL (opP) es k) ∧ Ext w1 wr) (fun _ i _ => es.length - (intOf i).toNat)
    case atStart => exact ⟨0, Nat.zero_le _, rfl, (by rw [show selL (opP) es 0 = [] from rfl]; exact (OwnI.lit0 w1 w1.heap.size (Nat.le_refl _))), qXt⟩
    case round =>
      obtain ⟨k, hk, rfl, OG, Lwr⟩ := hrel
      have Xwr : Ext w wr := Xw1.trans Lwr
      have s_wr : w.heap.size ≤ wr.heap.size := Xwr.size
      have t_wr : w1.heap.size ≤ wr.heap.size := Lwr.size
      replace b10 := Lwr.cell b10
      replace b11 := Lwr.cell b11
      have z_b1 : w.heap.size < wr.heap.size := qB b10
      have BL4_wr : Ext w1 wr := BL4.trans Lwr
      have Bwr : Ext w1 wr := Lwr
      obtain ⟨ga6, gc7, rfl⟩ := (OG.ints (by have := (show (selL (opP) es k).length ≤ 1048576 by have := selL_len (opP) es k; omega); omega)).form
      have OG5 := OG
      clear OG
      by_cases hlt : k < es.length
      · have hkI : (k : Int) < es.length := by omega
        have hN_x8 : k < es.length := (by omega)
        have hI_x8 : (k : Int) < (es.length : Int) := by omega
        obtain ⟨bl21, ol22, u15, c16, u17, c18, rfl, x80, x81, x82, x83, x84, i19, i20⟩ := (h2.ext Xwr).at k hN_x8
        obtain ⟨X14, hX14⟩ : ∃ x, expAt es k = x := ⟨_, rfl⟩
        rw [hX14] at x80 x81 x82 x83 x84 i19 i20
        obtain ⟨P9, B10, S11, T12, O13⟩ := X14
        dsimp only at x80 x81 x82 x83 x84 i19 i20
        replace hX14 := Lib.hid hX14
        have z_x8 : bl21 < wr.heap.size := qB x80
        cases O13
        · go_wp2_with fail
          go_roundw
          case rel => exact ⟨k + 1, by omega, by go_num, (by rw [selL_no (by rw [hX14.out]; rfl)]; exact OG5.ext qXt), (Bwr.trans qXt)⟩
          case measure => simp [intOf]; omega
        · have zGB := (Bwr).size
          have EE : Ext wr ((wr).alloc (.cells #[.int .i64 (k : Int)] 3)) := qXt
          have SS : Ints ((wr).alloc (.cells #[.int .i64 (k : Int)] 3)) 0 (.slice (some ⟨wr.heap.size, 0, none⟩) 1 1) [(k : Int)] := by simpa using Ints.one (wr) 0 (k : Int) (Nat.zero_le _)
          go_wp2_with (
            at_builtin
            refine wpList_app rfl (.tmp 22) (.tmp 24) rfl rfl rfl (by exact OG5.ext EE) (by exact SS) (by have := (show (selL (opP) es k).length ≤ 1048576 by have := selL_len (opP) es k; omega); simp only [List.length_append, List.length_cons, List.length_nil]; omega) (by simp <;> omega) ?_
            intro vw2 w2 ho hg7 hbl hv7
            clear hg7 hv7
            obtain ⟨ga23, rr24, rfl⟩ : ∃ a c, vw2 = .slice a ((selL (opP) es k).length + 1) c := by obtain ⟨a, c, h⟩ := (ho.ints (by simp only [List.length_append, List.length_cons, List.length_nil]; have := (show (selL (opP) es k).length ≤ 1048576 by have := selL_len (opP) es k; omega); omega)).form; exact ⟨a, c, by rw [h, List.length_append]; rfl⟩
            have Xw2 : Ext w w2 := Ext.below (Xwr.trans EE) hbl (by omega)
            have BL4_w2 : Ext w1 w2 := Ext.below (Ext.trans BL4_wr EE) hbl (by omega)
            have Bwr_w2 : Ext w1 w2 := Ext.below (Ext.trans Bwr EE) hbl (by omega)
            clear b10 b11
            clear x80 x81 x82 x83 x84
            clear i19
            clear i20
            clear OG5
            have OG5 := ho
            clear ho hbl EE SS zGB
            have s_w2 : w.heap.size ≤ w2.heap.size := Xw2.size)
          go_wp2_with fail
          go_roundw
          case rel => exact ⟨k + 1, by omega, by go_num, (by rw [selL_yes (by rw [hX14.out]; rfl)]; exact OG5.ext qXt), (Bwr_w2.trans qXt)⟩
          case measure => simp [intOf]; omega
      · obtain rfl : k = es.length := by omega
        have hkI : ¬ (es.length : Int) < es.length := by omega
        go_wp2_with fail
        go_ret
        rw [show openA cells es = selL (opP) es es.length by unfold openA; rw [hB2.out]; rfl]
        exact PInts.mk OG5 (by omega) (by have := selL_len (opP) es es.length; omega) (Xwr.trans qXt)

end Go.Proofs.Ytfbbnbpobojboaa

/- Walks: copies that are rows. -/
namespace Go.Proofs.Ytfbbnbpobojboaa
open Go.RowKit
set_option linter.unusedVariables false
set_option maxRecDepth 100000

set_option maxHeartbeats 1600000 in
theorem copyIntsO_c (v3 : Value) (u : List Int) (w : World) (l3 : Nat) (h3 : Ints w l3 v3 u) :
    Calls Try.prog 133 #[v3] w (PIntsO w u) := by
  obtain ⟨p2, c2, rfl⟩ := h3.form
  go_enter Try.func133, Try.ntmps133
  have BL6 : Ext w w := Ext.refl _
  have hln1 : u.length ≤ 4194304 := (h3).len
  go_wp2_with (at_builtin; refine wpList_app0O rfl (.tmp 3) (.tmp 4) rfl rfl rfl (OwnI.lit0 (w) w.heap.size (by simp)) (by simp) (h3.ext qXt) ?_)
  intro gr3 rr4 w1 O2 xw1 hg7 Ggr3'
  replace xw1 : Ext w w1 := Ext.trans qXt xw1
  have Ggr3 : w.heap.size ≤ gr3 := by (try simp only [World.size_alloc, World.size_drew] at hg7); omega
  clear hg7
  have Lw1 : Ext w w1 := Ext.trans qXt xw1
  have Xw1 : Ext w w1 := Lw1
  have s_w1 : w.heap.size ≤ w1.heap.size := Xw1.size
  have BL6_w1 : Ext w w1 := BL6.trans Lw1
  clear xw1
  go_wp2_with fail
  go_ret
  exact ⟨_, _, rfl, O2.lower (by omega), by omega, Ggr3', Xw1⟩



end Go.Proofs.Ytfbbnbpobojboaa

/- Walks: copies of views of the reference that are rows. -/
namespace Go.Proofs.Ytfbbnbpobojboaa
open Go.RowKit
set_option linter.unusedVariables false
set_option maxRecDepth 100000

set_option maxHeartbeats 1600000 in
theorem scopyViewO_c (b1 : Int) (u1 v1 : Value) (s1 t1 : List Int) (w : World) (l1 m1 : Nat) (h1 : Ints w l1 u1 s1) (k1 : Ints w m1 v1 t1) :
    Calls Try.prog 120 #[.agg #[.int .i64 b1, u1, v1]] w (PViewO w b1 s1 t1) := by
  obtain ⟨p0, c0, rfl⟩ := h1.form
  obtain ⟨p1, c1, rfl⟩ := k1.form
  go_enter Try.func120, Try.ntmps120
  go_wp2_with fail
  generalize hW1 : (w.alloc (.cells #[.int .i64 b1, .slice p0 s1.length c0, .slice p1 t1.length c1] 36)).alloc (.cells #[.int .i64 0, .slice none 0 0, .slice none 0 0] 36) = w1 at *
  have Lw1 : Ext w w1 := by subst hW1; exact qXt
  have Xw1 : Ext w w1 := by subst hW1; exact Lw1
  have b10 : w1.cell? ⟨w.heap.size, 0, none⟩ = some (.int .i64 b1) := by subst hW1; exact qCl
  have b11 : w1.cell? ⟨w.heap.size, 1, none⟩ = some (.slice p0 s1.length c0) := by subst hW1; exact qCl
  have b12 : w1.cell? ⟨w.heap.size, 2, none⟩ = some (.slice p1 t1.length c1) := by subst hW1; exact qCl
  have b20 : w1.cell? ⟨w.heap.size + 1, 0, none⟩ = some (.int .i64 0) := by subst hW1; exact qCl
  have b21 : w1.cell? ⟨w.heap.size + 1, 1, none⟩ = some (.slice none 0 0) := by subst hW1; exact qCl
  have b22 : w1.cell? ⟨w.heap.size + 1, 2, none⟩ = some (.slice none 0 0) := by subst hW1; exact qCl
  have f_b20 : w1.frozen? ⟨w.heap.size + 1, 0, none⟩ = false := by subst hW1; exact qFz
  have f_b21 : w1.frozen? ⟨w.heap.size + 1, 1, none⟩ = false := by subst hW1; exact qFz
  have f_b22 : w1.frozen? ⟨w.heap.size + 1, 2, none⟩ = false := by subst hW1; exact qFz
  have z_b1 : w.heap.size < w1.heap.size := qB b10
  have z_b2 : w.heap.size + 1 < w1.heap.size := qB b20
  have s_w1 : w.heap.size ≤ w1.heap.size := Xw1.size
  clear hW1
  have Q3_b10 := Lib.hid b10
  have Q3_b11 := Lib.hid b11
  have Q3_b12 := Lib.hid b12
  have Q3_zb1 := z_b1
  have Q3_b20 := Lib.hid b20
  have Q3_f_b20 := Lib.hid f_b20
  have Q3_b21 := Lib.hid b21
  have Q3_f_b21 := Lib.hid f_b21
  have Q3_b22 := Lib.hid b22
  have Q3_f_b22 := Lib.hid f_b22
  have Q3_zb2 := z_b2
  have BL4 : Ext w1 w1 := Ext.refl _
  go_cut [] (fun  wx => ∃ (g4 : Nat) (r4 : Nat) (g7 : Nat) (r7 : Nat), Chg (w.heap.size + 1) (w.heap.size + 1 + 1) w1 wx ∧ w1.heap.size ≤ g4 ∧ g4 < wx.heap.size ∧ w1.heap.size ≤ g7 ∧ g7 < wx.heap.size ∧ g4 ≠ g7 ∧ OwnI wx w1.heap.size (.slice (some ⟨g4, 0, none⟩) s1.length r4) s1 ∧ OwnI wx w1.heap.size (.slice (some ⟨g7, 0, none⟩) t1.length r7) t1 ∧ wx.cell? ⟨w.heap.size + 1, 0, none⟩ = some (.int .i64 b1) ∧ wx.frozen? ⟨w.heap.size + 1, 0, none⟩ = false ∧ wx.cell? ⟨w.heap.size + 1, 1, none⟩ = some (.slice (some ⟨g4, 0, none⟩) s1.length r4) ∧ wx.frozen? ⟨w.heap.size + 1, 1, none⟩ = false ∧ wx.cell? ⟨w.heap.size + 1, 2, none⟩ = some (.slice (some ⟨g7, 0, none⟩) t1.length r7) ∧ wx.frozen? ⟨w.heap.size + 1, 2, none⟩ = false)
  case first =>
    have X1 : Ext w1 w1 := Ext.refl _
    refine wp_region_held_drew (S := fun w' => w'.cell? ⟨w.heap.size, 0, none⟩ = some (.int .i64 b1) ∧ w'.cell? ⟨w.heap.size, 1, none⟩ = some (.slice p0 s1.length c0) ∧ w'.cell? ⟨w.heap.size, 2, none⟩ = some (.slice p1 t1.length c1)) qKr ⟨b10, b11, b12⟩ (fun hHeld => ?_)
    refine qHk (v := ?_) 0 rfl (.inl ⟨by rfl, ?_⟩) ?_
    rotate_left
    · (intro w hSw; (try dsimp only at hSw); go_simp; try with_reducible rfl)
    try simp only [Act.put, qa, qb, qc, qD, qE, qF]
    refine qHk (v := ?_) 1 rfl (.inl ⟨by rfl, ?_⟩) ?_
    rotate_left
    · (intro w hSw; (try dsimp only at hSw); go_simp; try with_reducible rfl)
    try simp only [Act.put, qa, qb, qc, qD, qE, qF]
    refine qHk (v := ?_) 2 rfl (.inl ⟨by rfl, ?_⟩) ?_
    rotate_left
    · (intro w hSw; (try dsimp only at hSw); go_simp; try with_reducible rfl)
    try simp only [Act.put, qa, qb, qc, qD, qE, qF]
    refine qHk (v := ?_) 3 rfl (.inl ⟨by rfl, ?_⟩) ?_
    rotate_left
    · (intro w hSw; (try dsimp only at hSw); go_simp; try with_reducible rfl)
    try simp only [Act.put, qa, qb, qc, qD, qE, qF]
    refine qHk (v := ?_) 5 rfl (.inl ⟨by rfl, ?_⟩) ?_
    rotate_left
    · (intro w hSw; (try dsimp only at hSw); go_simp; try with_reducible rfl)
    try simp only [Act.put, qa, qb, qc, qD, qE, qF]
    refine qHk (v := ?_) 6 rfl (.inl ⟨by rfl, ?_⟩) ?_
    rotate_left
    · (intro w hSw; (try dsimp only at hSw); go_simp; try with_reducible rfl)
    try simp only [Act.put, qa, qb, qc, qD, qE, qF]
    refine qHr 4 rfl (fun K hK => ?_)
    try simp only [Act.put, qa, qb, qc, qD, qE, qF]
    go_simp
    refine (copyIntsO_c (.slice p0 s1.length c0) s1 _ _ (h1.ext (Xw1.trans qXt))).mono ?_
    rintro e w1_1 ⟨g1_4, r1_5, rfl, O1_3, Gg1_4, Hg1_4, x1_2⟩
    simp only [World.size_drew] at Gg1_4 O1_3
    replace x1_2 : Ext w1 w1_1 := Ext.trans qXt x1_2
    have S_w1_1 : w1.heap.size ≤ w1_1.heap.size := x1_2.size
    replace X1 := X1.trans x1_2
    have Yw1_1 := Ext.refl w1_1
    clear x1_2
    refine hK.out _ w1_1 ⟨(show Ext w1 w1_1 from qXt).cell b10, (show Ext w1 w1_1 from qXt).cell b11, (show Ext w1 w1_1 from qXt).cell b12⟩ (fun hHeld => ?_)
    clear hK K
    try simp only [Act.put, qa, qb, qc, qD, qE, qF]
    refine qHr 7 rfl (fun K hK => ?_)
    try simp only [Act.put, qa, qb, qc, qD, qE, qF]
    go_simp
    refine (copyIntsO_c (.slice p1 t1.length c1) t1 _ _ (k1.ext (Xw1.trans qXt))).mono ?_
    rintro e w1_6 ⟨g1_9, r1_10, rfl, O1_8, Gg1_9, Hg1_9, x1_7⟩
    replace x1_7 : Ext w1_1 w1_6 := Ext.trans qXt x1_7
    have S_w1_6 : w1_1.heap.size ≤ w1_6.heap.size := x1_7.size
    replace Yw1_1 := Yw1_1.trans x1_7
    replace X1 := X1.trans x1_7
    have Yw1_6 := Ext.refl w1_6
    clear x1_7
    refine hK.out _ w1_6 ⟨(show Ext w1 w1_6 from qXt).cell b10, (show Ext w1 w1_6 from qXt).cell b11, (show Ext w1 w1_6 from qXt).cell b12⟩ (fun hHeld => ?_)
    clear hK K
    try simp only [Act.put, qa, qb, qc, qD, qE, qF]
    refine qHk (v := ?_) 8 rfl (.inl ⟨by rfl, ?_⟩) ?_
    rotate_left
    · (intro w hSw; (try dsimp only at hSw); go_simp; try with_reducible rfl)
    try simp only [Act.put, qa, qb, qc, qD, qE, qF]
    refine qHr 9 rfl (fun K hK => ?_)
    try simp only [Act.put, qa, qb, qc, qD, qE, qF]
    replace b20 := X1.cell b20
    replace f_b20 := X1.frz z_b2 f_b20
    replace b21 := X1.cell b21
    replace f_b21 := X1.frz z_b2 f_b21
    replace b22 := X1.cell b22
    replace f_b22 := X1.frz z_b2 f_b22
    go_simp
    have zz := X1.size
    have K1 : Chg (w.heap.size + 1) (w.heap.size + 1 + 1) w1_6 (((w1_6.setCell ⟨w.heap.size + 1, 0, none⟩ (.int .i64 b1)).setCell ⟨w.heap.size + 1, 1, none⟩ (.slice (some ⟨g1_4, 0, none⟩) s1.length r1_5)).setCell ⟨w.heap.size + 1, 2, none⟩ (.slice (some ⟨g1_9, 0, none⟩) t1.length r1_10)) := (Chg.setCell (p := ⟨w.heap.size + 1, 2, none⟩) (Chg.setCell (p := ⟨w.heap.size + 1, 1, none⟩) (Chg.setCell (p := ⟨w.heap.size + 1, 0, none⟩) (Chg.refl (w.heap.size + 1) ((w.heap.size + 1) + 1) w1_6) (Nat.le_refl _) (Nat.lt_succ_self _) _) (Nat.le_refl _) (Nat.lt_succ_self _) _) (Nat.le_refl _) (Nat.lt_succ_self _) _)
    have n_b20 : (((w1_6.setCell ⟨w.heap.size + 1, 0, none⟩ (.int .i64 b1)).setCell ⟨w.heap.size + 1, 1, none⟩ (.slice (some ⟨g1_4, 0, none⟩) s1.length r1_5)).setCell ⟨w.heap.size + 1, 2, none⟩ (.slice (some ⟨g1_9, 0, none⟩) t1.length r1_10)).cell? ⟨w.heap.size + 1, 0, none⟩ = some (.int .i64 b1) := by go_simp
    replace f_b20 : (((w1_6.setCell ⟨w.heap.size + 1, 0, none⟩ (.int .i64 b1)).setCell ⟨w.heap.size + 1, 1, none⟩ (.slice (some ⟨g1_4, 0, none⟩) s1.length r1_5)).setCell ⟨w.heap.size + 1, 2, none⟩ (.slice (some ⟨g1_9, 0, none⟩) t1.length r1_10)).frozen? ⟨w.heap.size + 1, 0, none⟩ = false := by go_simp
    have n_b21 : (((w1_6.setCell ⟨w.heap.size + 1, 0, none⟩ (.int .i64 b1)).setCell ⟨w.heap.size + 1, 1, none⟩ (.slice (some ⟨g1_4, 0, none⟩) s1.length r1_5)).setCell ⟨w.heap.size + 1, 2, none⟩ (.slice (some ⟨g1_9, 0, none⟩) t1.length r1_10)).cell? ⟨w.heap.size + 1, 1, none⟩ = some (.slice (some ⟨g1_4, 0, none⟩) s1.length r1_5) := by go_simp
    replace f_b21 : (((w1_6.setCell ⟨w.heap.size + 1, 0, none⟩ (.int .i64 b1)).setCell ⟨w.heap.size + 1, 1, none⟩ (.slice (some ⟨g1_4, 0, none⟩) s1.length r1_5)).setCell ⟨w.heap.size + 1, 2, none⟩ (.slice (some ⟨g1_9, 0, none⟩) t1.length r1_10)).frozen? ⟨w.heap.size + 1, 1, none⟩ = false := by go_simp
    have n_b22 : (((w1_6.setCell ⟨w.heap.size + 1, 0, none⟩ (.int .i64 b1)).setCell ⟨w.heap.size + 1, 1, none⟩ (.slice (some ⟨g1_4, 0, none⟩) s1.length r1_5)).setCell ⟨w.heap.size + 1, 2, none⟩ (.slice (some ⟨g1_9, 0, none⟩) t1.length r1_10)).cell? ⟨w.heap.size + 1, 2, none⟩ = some (.slice (some ⟨g1_9, 0, none⟩) t1.length r1_10) := by go_simp
    replace f_b22 : (((w1_6.setCell ⟨w.heap.size + 1, 0, none⟩ (.int .i64 b1)).setCell ⟨w.heap.size + 1, 1, none⟩ (.slice (some ⟨g1_4, 0, none⟩) s1.length r1_5)).setCell ⟨w.heap.size + 1, 2, none⟩ (.slice (some ⟨g1_9, 0, none⟩) t1.length r1_10)).frozen? ⟨w.heap.size + 1, 2, none⟩ = false := by go_simp
    replace O1_3 := (O1_3.ext Yw1_1).chgN K1 (by omega)
    replace O1_8 := (O1_8.ext Yw1_6).chgN K1 (by omega)
    have C1 : Chg (w.heap.size + 1) (w.heap.size + 1 + 1) w1 (((w1_6.setCell ⟨w.heap.size + 1, 0, none⟩ (.int .i64 b1)).setCell ⟨w.heap.size + 1, 1, none⟩ (.slice (some ⟨g1_4, 0, none⟩) s1.length r1_5)).setCell ⟨w.heap.size + 1, 2, none⟩ (.slice (some ⟨g1_9, 0, none⟩) t1.length r1_10)) := (Chg.of_ext X1).trans K1
    clear zz K1
    have S_st : w1_6.heap.size ≤ (((w1_6.setCell ⟨w.heap.size + 1, 0, none⟩ (.int .i64 b1)).setCell ⟨w.heap.size + 1, 1, none⟩ (.slice (some ⟨g1_4, 0, none⟩) s1.length r1_5)).setCell ⟨w.heap.size + 1, 2, none⟩ (.slice (some ⟨g1_9, 0, none⟩) t1.length r1_10)).heap.size := by simp
    refine hK.out _ ((((w1_6.setCell ⟨w.heap.size + 1, 0, none⟩ (.int .i64 b1)).setCell ⟨w.heap.size + 1, 1, none⟩ (.slice (some ⟨g1_4, 0, none⟩) s1.length r1_5)).setCell ⟨w.heap.size + 1, 2, none⟩ (.slice (some ⟨g1_9, 0, none⟩) t1.length r1_10))) ⟨C1.cell (by omega) b10, C1.cell (by omega) b11, C1.cell (by omega) b12⟩ (fun hHeld => ?_)
    clear hK K
    try simp only [Act.put, qa, qb, qc, qD, qE, qF]
    refine wpAnyH_done qKr ?_ _
    clear hHeld
    have zz := X1.size
    go_step
    go_step
    go_meet
    case rel => exact ⟨g1_4, r1_5, g1_9, r1_10, C1, (by omega), (by omega), (by omega), (by omega), (by omega), (O1_3).lower (by omega), (O1_8).lower (by omega), n_b20, f_b20, n_b21, f_b21, n_b22, f_b22⟩
  case rest =>
    generalize wc = wc5 at hcut ⊢
    obtain ⟨g7, r8, g9, r10, xx6, Gg7, Hg7, Gg9, Hg9, Dg7g9, O11, O12, N_b20, M_b20, N_b21, M_b21, N_b22, M_b22⟩ := hcut
    have zc_wc5 := xx6.size
    have Xwc5 : Ext w wc5 := Ext.chg Xw1 xx6 (by omega)
    replace b10 := xx6.cell (by omega) b10
    replace b11 := xx6.cell (by omega) b11
    replace b12 := xx6.cell (by omega) b12
    replace b20 := N_b20
    clear N_b20
    replace f_b20 := M_b20
    clear M_b20
    replace b21 := N_b21
    clear N_b21
    replace f_b21 := M_b21
    clear M_b21
    replace b22 := N_b22
    clear N_b22
    replace f_b22 := M_b22
    clear M_b22
    have z_b1 : w.heap.size < wc5.heap.size := qB b10
    have z_b2 : w.heap.size + 1 < wc5.heap.size := qB b20
    have s_wc5 : w.heap.size ≤ wc5.heap.size := Xwc5.size
    clear xx6
    go_wp2_with fail
    refine bodyPost_ret (v := .agg #[.int .i64 b1, .slice (some ⟨g7, 0, none⟩) s1.length r8, .slice (some ⟨g9, 0, none⟩) t1.length r10]) (by simp only [results, Try.results120]; go_simp) rfl ?_
    exact ⟨g7, g9, _, _, rfl, O11.lower (by omega), O12.lower (by omega), by omega, by omega, by omega, by omega, by omega, (Xwc5.trans qXt)⟩


end Go.Proofs.Ytfbbnbpobojboaa
