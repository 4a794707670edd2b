/- Texts of these proofs put together: Mem, ViewA, ViewB, ViewC, SpA, SpB, Shelf, PureA, Lib, ViewD, ViewE, ViewF, PureB, ViewG, LwA, Copy, LwB, LwC, LwD, Lp, ExI, MemA, ExJ, ExD, ExG, RngA, PureC, ExK, ExL, ExM, SvA, SvB, SvC, PureV, PureW, PureX, PureY, RngB, RngC, SlA, PureZ, Rg, GenA. No condition. -/
import Derived.Test.YtpgkhjmboiepcaaProg
import Derived.WalkKit
import Derived.WalkSpells
import Derived.WalkLawsBesides
import Derived.BigQuiet
import Derived.Deep.QuietTactic
import Derived.Deep.RegionLaw
import Derived.Deep.AppendLies
import Derived.Deep.RegionHeld3
import Derived.Deep.DeepFit
import Derived.Lib.Hide
import Derived.Maps.AppendAt
import Derived.Shelf.Small.Bits
import Derived.Shelf.Strconv.Itoa0
import Derived.Shelf.Sort.Plain
import Derived.Shelf.Slices.Turned
import Derived.Ground.Names2Prog
import Derived.Shelf.Slices.CompactI
import Derived.Shelf.Slices.SearchI
import Derived.Shelf.Slices.Cells
import Derived.Shelf.Slices.In.SortNone
import Derived.Lib.SlicesCompact
import Derived.Sort.OwnSortedInts
import Derived.StillTail
import Derived.Deep.DeepCutAuto
import Derived.Deep.CutBlock
set_option linter.unusedVariables false
set_option linter.unusedSimpArgs false
/- Words for memory: worlds that only grew, slices of ints that read as lists. Its conditions: none. -/
namespace Go.Proofs.Ytpgkhjmboiepcaa
open Go.RowKit

theorem qXt {p : Prop} (h : p := by repeat (first | (with_reducible assumption) | (with_reducible refine Ext.setCell ?_ (by first | (simp; done) | (simp; omega) | omega) _) | (with_reducible apply Ext.alloc) | (with_reducible apply Ext.drew) | (with_reducible apply Ext.drewN) | (with_reducible exact Ext.refl _))) : p := h
theorem qCl {p : Prop} (h : p := by first | (simp; done) | ((repeat rw [World.cell?_alloc_lt _ _ _ (by simp <;> omega)]); simp; done) | (go_simp; done)) : p := h
theorem qKr {p : Prop} (h : p := by kernel_rfl) : p := h
theorem qSo {p : Prop} (h : p := by first | (simp; done) | (simp; omega) | omega) : p := h
theorem qXo {p : Prop} (h : p := by repeat (first | exact Ext.refl _ | assumption | apply Ext.drewN | apply Ext.drew | apply Ext.alloc)) : p := h
theorem qFz {p : Prop} (h : p := by first | (simp; done) | (go_simp; done)) : p := h
theorem qGs {p : Prop} (h : p := by first | (go_simp; done) | (go_simp; rfl)) : p := h
theorem qB {w : World} {a : Addr} {v : Value} (h : w.cell? a = some v) : a.block < w.heap.size := World.block_lt_of_cell? _ _ h
theorem qa : type_of% @List.setIfInBounds_toArray := @List.setIfInBounds_toArray
theorem qb : type_of% @List.set_cons_zero := @List.set_cons_zero
theorem qc : type_of% @List.set_cons_succ := @List.set_cons_succ
theorem qD : type_of% @List.getElem_toArray := @List.getElem_toArray
theorem qE : type_of% @List.getElem_cons_succ := @List.getElem_cons_succ
theorem qF : type_of% @List.getElem_cons_zero := @List.getElem_cons_zero
section
variable {P : Program} {ops : Array Oper} {Q : Exit → Act → World → Prop} {md : Region.Mode} {S : World → Prop}
theorem qHk {oi : Oper} {v : Value} {fuel : Nat} {listed : Array Bool} {a : Act} {w : World} (i : Nat) (hi : ops[i]? = some oi) (hy : YieldsIf P ops S oi v a)
  (h : wpAnyH P md ops Q S fuel (listed.setIfInBounds i true) (a.put oi.dst v) w)
  (hs : Region.noSelect ops = true := by kernel_rfl) (hf : Region.free md ops listed i = true := by kernel_rfl) (hr : (Region.ready md ops listed).contains i = true := by kernel_rfl)
  (hQ : ∀ c a w, Q (.panic c) (a.put oi.dst v) w → Q (.panic c) a w := by exact fun _ _ _ h => h) (hS : S w := by assumption) :
  wpAnyH P md ops Q S (fuel + 1) listed a w := wpAnyH_take hi hs hf hr hQ hy hS h
theorem qHr {fuel : Nat} {listed : Array Bool} {a : Act} {w : World} {o : Oper} (i : Nat) (ho : ops[i]? = some o)
  (h : ∀ K' : Act → World → Prop, Shut (∀ a w, S w → (S w → wpAnyH P md ops Q S fuel (listed.setIfInBounds i true) a w) → K' a w) → if Region.wanted o (yielded ops a.tmps) = true then Oper.wp P o a w K' Q else K' (a.put o.dst undef) w)
  (hr : Region.ready md ops listed = [i] := by kernel_rfl) : wpAnyH P md ops Q S (fuel + 1) listed a w :=
 wpAnyH_ready hr (by simp) (AllReadyH.cons ho h AllReadyH.nil)
end

/-- what a call that writes nothing old leaves: the old blocks as they were -/
def Ext (w w' : World) : Prop := Below w.heap.size w w'

theorem Ext.refl (w : World) : Ext w w := Below.refl _ _
theorem Ext.trans {a b c : World} (h : Ext a b) (k : Ext b c) : Ext a c := Below.trans h (Below.mono k h.size)
theorem Ext.alloc {a w : World} (h : Ext a w) (o : Obj) : Ext a (w.alloc o) := Below.alloc h h.size o
theorem Ext.drew {a w : World} (h : Ext a w) : Ext a w.drew := Below.drew h
theorem Ext.drewN {a w : World} (h : Ext a w) (n : Nat) : Ext a (w.drewN n) := ⟨h.os, h.tape, h.output, h.size, h.block⟩
theorem Ext.setCell {a w : World} (h : Ext a w) {p : Addr} (hp : a.heap.size ≤ p.block) (u : Value) : Ext a (w.setCell p u) := Below.setCell h hp u
theorem Ext.grown {a w w' : World} {row : Option Nat} (h : Ext a w) (hg : w.grownBy w' row) (hr : ∀ k, row = some k → a.heap.size ≤ k) : Ext a w' := Below.grown h hg h.size hr
theorem Ext.cell {w w' : World} (h : Ext w w') {p : Addr} {v : Value} (hc : w.cell? p = some v) : w'.cell? p = some v :=
 (Below.cell h (World.block_lt_of_cell? _ _ hc)).trans hc
theorem Ext.rule {w w' : World} (h : Ext w w') : ∀ b o, b < w.heap.size → w'.cell? ⟨b, o, none⟩ = w.cell? ⟨b, o, none⟩ := fun b o hb => Below.cell (p := ⟨b, o, none⟩) h hb
theorem Ext.frule {w w' : World} (h : Ext w w') : ∀ b o, b < w.heap.size → w'.frozen? ⟨b, o, none⟩ = w.frozen? ⟨b, o, none⟩ := fun b o hb => Below.frozen (p := ⟨b, o, none⟩) h hb

/-- the slice value v reads as the ints xs; its cells lie in blocks from lo on, unfrozen -/
def Ints (w : World) (lo : Nat) (v : Value) (xs : List Int) : Prop :=
 ∃ a cap, v = .slice a xs.length cap ∧ xs.length ≤ cap ∧ cap ≤ maxLen ∧ (xs.length ≤ 4194304 ∧ (a = none → cap = 0)) ∧
  ∀ i, i < xs.length → ∃ b off, a = some ⟨b, off, none⟩ ∧ lo ≤ b ∧ w.cell? ⟨b, off + i, none⟩ = some (.int .i64 (xs.getD i 0)) ∧ w.frozen? ⟨b, off + i, none⟩ = false

theorem Ints.ext {w w' : World} {lo : Nat} {v : Value} {xs : List Int} (h : Ints w lo v xs) (hx : Ext w w') : Ints w' lo v xs := by
 obtain ⟨a, cap, hv, h1, h2, h3, h4⟩ := h
 refine ⟨a, cap, hv, h1, h2, h3, fun i hi => ?_⟩
 obtain ⟨b, off, ha, hl, hc, hf⟩ := h4 i hi
 exact ⟨b, off, ha, hl, hx.cell hc, (Below.frozen (p := ⟨b, off + i, none⟩) hx (World.block_lt_of_cell? _ _ hc)).trans hf⟩

theorem Ints.lower {w : World} {lo lo' : Nat} {v : Value} {xs : List Int} (h : Ints w lo v xs) (hl : lo' ≤ lo) : Ints w lo' v xs := by
 obtain ⟨a, cap, hv, h1, h2, h3, h4⟩ := h
 refine ⟨a, cap, hv, h1, h2, h3, fun i hi => ?_⟩
 obtain ⟨b, off, ha, hl', hc, hf⟩ := h4 i hi
 exact ⟨b, off, ha, by omega, hc, hf⟩

theorem Ints.nil (w : World) (lo cap : Nat) (a : Option Addr) (hc : cap ≤ maxLen) (ha : a = none → cap = 0) : Ints w lo (.slice a 0 cap) [] :=
 ⟨a, cap, rfl, by simp, hc, ⟨by simp, ha⟩, fun i hi => absurd hi (by simp)⟩

/-- an owned row of ints reads as its list -/
theorem Ints.of_own {w : World} {base E : Nat} {v : Value} {n : Nat} {xs : List Int} (h : w.ownsRow base E 1 v n (xs.map (Value.int .i64))) (hn : xs.length ≤ 4194304) : Ints w base v xs := by
 have hl : xs.length = n := by simpa using h.1
 subst hl
 rcases h.2 with ⟨rfl, h0⟩ | ⟨g, cap, cur, rfl, hb, hg, hnc, hcm, hcs, ht⟩
 ·
  obtain rfl : xs = [] := List.eq_nil_of_length_eq_zero h0
  exact Ints.nil _ _ _ _ (by simp) (fun _ => rfl)
 ·
  refine ⟨_, cap, rfl, hnc, hcm, ⟨hn, fun h => by cases h⟩, fun i hi => ⟨g, 0, rfl, hb, ?_, ?_⟩⟩
  ·
   have := World.ownsRow.cells h (g := g) rfl i (.int .i64 (xs.getD i 0)) (by simp [hi])
   have e : (⟨g, 0, none⟩ : Addr).add i = ⟨g, 0 + i, none⟩ := by unfold Addr.add; split <;> simp_all
   rw [e] at this
   exact this
  ·
   simpa using World.ownsRow.frozenAt h i

theorem infoInt : (Try.prog.info? 3).map (fun i => (i.zero, i.size, i.bytes)) = some (some (.int .i64 0), 1, 8) := by kernel_rfl

/-- a store into an owned row of ints -/
theorem own_set {w : World} {B E g cap n : Nat} {xs : List Int} (h : w.ownsRow B E 1 (.slice (some ⟨g, 0, none⟩) n cap) n (xs.map (Value.int .i64))) (k : Nat) (x : Int) (_hk : k < n) :
  (w.setCell ⟨g, k, none⟩ (.int .i64 x)).ownsRow B E 1 (.slice (some ⟨g, 0, none⟩) n cap) n ((xs.set k x).map (Value.int .i64)) := by
 have := (World.ownsRow.stored h k (.int .i64 x)).1
 rwa [List.map_set]

theorem own_len {w : World} {B E n : Nat} {v : Value} {xs : List Int} (h : w.ownsRow B E 1 v n (xs.map (Value.int .i64))) : xs.length = n := by simpa using h.1

theorem own_cell {w : World} {B E g cap n : Nat} {xs : List Int} (h : w.ownsRow B E 1 (.slice (some ⟨g, 0, none⟩) n cap) n (xs.map (Value.int .i64))) (k : Nat) (hk : k < n) :
  w.cell? ⟨g, k, none⟩ = some (.int .i64 (xs.getD k 0)) ∧ w.frozen? ⟨g, k, none⟩ = false := by
 refine ⟨?_, World.ownsRow.frozenAt h k⟩
 rw [World.ownsRow.cellAt h k (by omega)]
 have := own_len h
 simp [show k < xs.length by omega]

theorem made_ints (n : Nat) : (madeCells #[Value.int .i64 0] n).toList = (List.replicate n (0 : Int)).map (Value.int .i64) := by
 rw [toList_madeCells_one]; simp

theorem own_ext {w w' : World} {B E n : Nat} {v : Value} {xs : List Value} (h : w.ownsRow B E 1 v n xs) (hx : Ext w w') : w'.ownsRow B E 1 v n xs := by
 refine ⟨h.1, ?_⟩
 rcases h.2 with h2 | ⟨g, cap, cur, hv, hg, hh, r⟩
 ·
  exact .inl h2
 ·
  exact .inr ⟨g, cap, cur, hv, hg, (hx.block g (Array.getElem?_eq_some_iff.1 hh).1).trans hh, r⟩


/-- an owned row of ints -/
def OwnI (w : World) (base : Nat) (v : Value) (xs : List Int) : Prop := w.ownsRow base 3 1 v xs.length (xs.map (Value.int .i64))

theorem OwnI.ints {w : World} {base : Nat} {v : Value} {xs : List Int} (h : OwnI w base v xs) (hn : xs.length ≤ 4194304) : Ints w base v xs := Ints.of_own h hn
theorem OwnI.ext {w w' : World} {base : Nat} {v : Value} {xs : List Int} (h : OwnI w base v xs) (hx : Ext w w') : OwnI w' base v xs := own_ext h hx
theorem OwnI.lit0 (w : World) (base : Nat) (hb : base ≤ w.heap.size) : OwnI (w.alloc (.cells #[] 3)) base (.slice (some ⟨w.heap.size, 0, none⟩) 0 0) [] :=
 World.ownsRow_lit w #[] 0 hb (by simp) rfl
theorem OwnI.nil (w : World) (base : Nat) : OwnI w base (.slice none 0 0) [] := World.ownsRow_nil _ _ _ _

theorem OwnI.lower {w : World} {base base' : Nat} {v : Value} {xs : List Int} (h : OwnI w base v xs) (hb : base' ≤ base) : OwnI w base' v xs :=
 ⟨h.1, h.2.imp id fun ⟨g, cap, cur, hv, hg, r⟩ => ⟨g, cap, cur, hv, Nat.le_trans hb hg, r⟩⟩

/-- an owned row of ints, or nothing at all -/
def OwnZ (w : World) (base : Nat) (v : Value) (xs : List Int) : Prop := (xs = [] ∧ ∃ a cap, v = .slice a 0 cap ∧ cap ≤ maxLen ∧ (a = none → cap = 0)) ∨ OwnI w base v xs
theorem OwnI.z {w : World} {base : Nat} {v : Value} {xs : List Int} (h : OwnI w base v xs) : OwnZ w base v xs := .inr h
theorem OwnZ.lower {w : World} {base base' : Nat} {v : Value} {xs : List Int} (h : OwnZ w base v xs) (hb : base' ≤ base) : OwnZ w base' v xs := h.imp id (fun h => h.lower hb)
theorem OwnZ.ext {w w' : World} {base : Nat} {v : Value} {xs : List Int} (h : OwnZ w base v xs) (hx : Ext w w') : OwnZ w' base v xs := h.imp id (fun h => h.ext hx)
theorem OwnZ.ints {w : World} {base : Nat} {v : Value} {xs : List Int} (h : OwnZ w base v xs) (hn : xs.length ≤ 4194304) : Ints w base v xs := by
 rcases h with ⟨rfl, a, cap, rfl, hc, ha⟩ | h
 ·
  exact Ints.nil _ _ _ _ hc ha
 ·
  exact h.ints hn

/-- a call hands back a new slice of these ints -/
def PInts (w : World) (xs : List Int) (e : Ending) (w' : World) : Prop := ∃ v, e = .returned v ∧ Ints w' w.heap.size v xs ∧ OwnZ w' w.heap.size v xs ∧ Ext w w'
theorem PInts.mk {w w' : World} {base : Nat} {xs : List Int} {v : Value} (h : OwnI w' base v xs) (hb : w.heap.size ≤ base) (hn : xs.length ≤ 4194304) (hx : Ext w w') : PInts w xs (.returned v) w' :=
 ⟨v, rfl, (h.lower hb).ints hn, (h.lower hb).z, hx⟩
theorem PInts.mkz {w w' : World} {base : Nat} {xs : List Int} {v : Value} (h : OwnZ w' base v xs) (hb : w.heap.size ≤ base) (hn : xs.length ≤ 4194304) (hx : Ext w w') : PInts w xs (.returned v) w' :=
 ⟨v, rfl, (h.lower hb).ints hn, (h.lower hb), hx⟩

theorem below_grownR {w w' : World} {base E size n : Nat} {v : Value} {xs : List Value} (h : w.ownsRow base E size v n xs) (hg : w.grownBy w' v.ownBlock) (hb : base ≤ w.heap.size) : Below base w w' :=
 (Below.refl base w).grown hg hb fun k hk => (World.ownsRow.lt h k hk).1

/-- the cells that an append takes -/
def SrcR (w : World) (size : Nat) (src : Value) (m : Nat) (news : List Value) : Prop :=
 ∃ a cap, src = .slice a m cap ∧ (a = none → m = 0 ∧ cap = 0) ∧ (∀ ad, a = some ad → ∀ j u, news[j]? = some u → w.cell? (ad.add j) = some u) ∧ news.length = m * size ∧ ∀ u ∈ news, u.oneCell' = true

theorem Ints.src {w : World} {lo : Nat} {v : Value} {ys : List Int} (h : Ints w lo v ys) : SrcR w 1 v ys.length (ys.map (Value.int .i64)) := by
 obtain ⟨a, cap, rfl, h1, h2, ⟨_, h3⟩, h4⟩ := h
 refine ⟨a, cap, rfl, fun h => ⟨by have := h3 h; omega, h3 h⟩, ?_, by simp, by intro u hu; simp at hu; obtain ⟨x, _, rfl⟩ := hu; rfl⟩
 rintro ad rfl j u hu
 have hj : j < ys.length := by
  rcases Nat.lt_or_ge j ys.length with h | h
  ·
   exact h
  ·
   rw [List.getElem?_eq_none (by simpa using h)] at hu; cases hu
 obtain ⟨b, off, ha, _, hc, _⟩ := h4 j hj
 cases ha
 have e : (⟨b, off, none⟩ : Addr).add j = ⟨b, off + j, none⟩ := by unfold Addr.add; split <;> simp_all
 rw [e, hc]
 simp [hj] at hu ⊢
 exact hu

section
variable {T E size bytes : Nat} {z : Value} {w : World} {base n m : Nat} {v src : Value} {xs news : List Value}

theorem run_appR (hT : Try.prog.underlying T = some (.slice E)) (hI : (Try.prog.info? E).map (fun i => (i.zero, i.size, i.bytes)) = some (some z, size, bytes)) (hzs : z.cells.size = size) (hsz : 0 < size) (ty : TypeId)
  (h : w.ownsRow base E size v n xs) (hs : SrcR w size src m news) (h63 : n + m ≤ 4194304) (hbytes : (n + m) * bytes ≤ 140737488355328) (hb : base ≤ w.heap.size) :
  ∃ v' w', (Builtin.append_ #[T, T] ty #[v, src]).run Try.prog w = .ok v' w' ∧ w'.ownsRow base E size v' (n + m) (xs ++ news) ∧ w.grownBy w' v.ownBlock ∧ Below base w w' ∧ (v'.ownBlock = v.ownBlock ∨ v'.ownBlock = some w.heap.size) := by
 obtain ⟨i0, hi, hz0, hz1, hz2⟩ := info_parts hI
 obtain ⟨a, cap, rfl, h3, h4, h5, h6⟩ := hs
 cases a with
 | none =>
  obtain ⟨rfl, rfl⟩ := h3 rfl
  obtain rfl : news = [] := List.eq_nil_of_length_eq_zero (by omega)
  exact ⟨v, w, run_append_owned_none (P := Try.prog) w base _ ty E i0 size hT hi v _ _ h, by simpa using h, World.grownBy.refl _ _, Below.refl _ _, .inl rfl⟩
 | some ad =>
  obtain ⟨v', w', hr, ho, hg, _, h7⟩ := run_append_own_at (P := Try.prog) w base T ty E i0 z size bytes hT hi hz0 hz1 hz2 hzs hsz v n xs h ad m cap news h5 (h4 ad rfl) h6 (by unfold maxLen; omega) hbytes hb
  exact ⟨v', w', hr, ho, hg, below_grownR h hg hb, h7⟩

theorem wp_appR (hT : Try.prog.underlying T = some (.slice E)) (hI : (Try.prog.info? E).map (fun i => (i.zero, i.size, i.bytes)) = some (some z, size, bytes)) (hzs : z.cells.size = size) (hsz : 0 < size)
  {o : Oper} {a : Act} {K : Act → World → Prop} {Q : Exit → Act → World → Prop} (s x : Operand)
  (ho : o.op = .call { callee := .builtin .append, args := #[s, x], argTypes := #[T, T] })
  (hs : a.eval s = v) (hx : a.eval x = src) (h : w.ownsRow base E size v n xs) (hsrc : SrcR w size src m news) (h63 : n + m ≤ 4194304) (hbytes : (n + m) * bytes ≤ 140737488355328) (hb : base ≤ w.heap.size)
  (hK : ∀ v' w', w'.ownsRow base E size v' (n + m) (xs ++ news) → w.grownBy w' v.ownBlock → Below base w w' → (v'.ownBlock = v.ownBlock ∨ v'.ownBlock = some w.heap.size) → K (a.put o.dst v') w') : o.wp Try.prog a w K Q := by
 obtain ⟨v', w', hr, h1, h2, h3, h4⟩ := run_appR hT hI hzs hsz o.type h hsrc h63 hbytes hb
 unfold Oper.wp execOp
 simp only [ho, resolve, invoke, builtin, Sem.run_bind, Sem.run_pure, Result.andThen_ok, List.map_toArray, List.map_cons, List.map_nil, hs, hx, hr]
 exact hK v' w' h1 h2 h3 h4

theorem wpList_appR (hT : Try.prog.underlying T = some (.slice E)) (hI : (Try.prog.info? E).map (fun i => (i.zero, i.size, i.bytes)) = some (some z, size, bytes)) (hzs : z.cells.size = size) (hsz : 0 < size)
  {ops : Array Oper} {rest : List Oper} {o : Oper} {a : Act} {Q : Exit → Act → World → Prop} (hgd : o.guard = none) (s x : Operand)
  (ho : o.op = .call { callee := .builtin .append, args := #[s, x], argTypes := #[T, T] })
  (hs : a.eval s = v) (hx : a.eval x = src) (h : w.ownsRow base E size v n xs) (hsrc : SrcR w size src m news) (h63 : n + m ≤ 4194304) (hbytes : (n + m) * bytes ≤ 140737488355328) (hb : base ≤ w.heap.size)
  (hK : ∀ v' w', w'.ownsRow base E size v' (n + m) (xs ++ news) → w.grownBy w' v.ownBlock → Below base w w' → (v'.ownBlock = v.ownBlock ∨ v'.ownBlock = some w.heap.size) → wpList Try.prog ops Q rest (a.put o.dst v') w') : wpList Try.prog ops Q (o :: rest) a w :=
 wpList_plain hgd fun _ hK' => wp_appR hT hI hzs hsz s x ho hs hx h hsrc h63 hbytes hb fun v' w' h1 h2 h3 h4 => hK' _ _ (hK v' w' h1 h2 h3 h4)

theorem step_appR (hT : Try.prog.underlying T = some (.slice E)) (hI : (Try.prog.info? E).map (fun i => (i.zero, i.size, i.bytes)) = some (some z, size, bytes)) (hzs : z.cells.size = size) (hsz : 0 < size)
  {ops : Array Oper} {o : Oper} {a : Act} {K : Act → World → Prop} {Q : Exit → Act → World → Prop} {F : Prop} (hgd : o.guard = none) (s x : Operand)
  (ho : o.op = .call { callee := .builtin .append, args := #[s, x], argTypes := #[T, T] })
  (hs : a.eval s = v) (hx : a.eval x = src) (h : w.ownsRow base E size v n xs) (hsrc : SrcR w size src m news) (h63 : n + m ≤ 4194304) (hbytes : (n + m) * bytes ≤ 140737488355328) (hb : base ≤ w.heap.size)
  (hK : ∀ v' w', w'.ownsRow base E size v' (n + m) (xs ++ news) → w.grownBy w' v.ownBlock → Below base w w' → (v'.ownBlock = v.ownBlock ∨ v'.ownBlock = some w.heap.size) → K (a.put o.dst v') w') :
  if Region.wanted o (yielded ops a.tmps) = true then Oper.wp Try.prog o a w K Q else F := by
 have hw : Region.wanted o (yielded ops a.tmps) = true := by simp [Region.wanted, hgd]
 rw [if_pos hw]
 exact wp_appR hT hI hzs hsz s x ho hs hx h hsrc h63 hbytes hb hK
end

section
variable {w : World} {base lo : Nat} {v src : Value} {xs ys : List Int}
theorem OwnI.of_app {w' : World} {v' : Value} (h : w'.ownsRow base 3 1 v' (xs.length + ys.length) (xs.map (Value.int .i64) ++ ys.map (Value.int .i64))) : OwnI w' base v' (xs ++ ys) := by
 unfold OwnI; rw [List.length_append, List.map_append]; exact h

theorem wpList_app {ops : Array Oper} {rest : List Oper} {o : Oper} {a : Act} {Q : Exit → Act → World → Prop} (hgd : o.guard = none) (s x : Operand)
  (ho : o.op = .call { callee := .builtin .append, args := #[s, x], argTypes := #[23, 23] })
  (hs : a.eval s = v) (hx : a.eval x = src) (h : OwnI w base v xs) (hsrc : Ints w lo src ys) (hn : xs.length + ys.length ≤ 4194304) (hb : base ≤ w.heap.size)
  (hK : ∀ v' w', OwnI w' base v' (xs ++ ys) → w.grownBy w' v.ownBlock → Below base w w' → (v'.ownBlock = v.ownBlock ∨ v'.ownBlock = some w.heap.size) → wpList Try.prog ops Q rest (a.put o.dst v') w') : wpList Try.prog ops Q (o :: rest) a w :=
 wpList_appR Try.underlying23 infoInt rfl (by decide) hgd s x ho hs hx h hsrc.src hn (by omega) hb fun v' w' h1 => hK v' w' (OwnI.of_app h1)

theorem step_app {ops : Array Oper} {o : Oper} {a : Act} {K : Act → World → Prop} {Q : Exit → Act → World → Prop} {F : Prop} (hgd : o.guard = none) (s x : Operand)
  (ho : o.op = .call { callee := .builtin .append, args := #[s, x], argTypes := #[23, 23] })
  (hs : a.eval s = v) (hx : a.eval x = src) (h : OwnI w base v xs) (hsrc : Ints w lo src ys) (hn : xs.length + ys.length ≤ 4194304) (hb : base ≤ w.heap.size)
  (hK : ∀ v' w', OwnI w' base v' (xs ++ ys) → w.grownBy w' v.ownBlock → Below base w w' → (v'.ownBlock = v.ownBlock ∨ v'.ownBlock = some w.heap.size) → K (a.put o.dst v') w') :
  if Region.wanted o (yielded ops a.tmps) = true then Oper.wp Try.prog o a w K Q else F :=
 step_appR Try.underlying23 infoInt rfl (by decide) hgd s x ho hs hx h hsrc.src hn (by omega) hb fun v' w' h1 => hK v' w' (OwnI.of_app h1)

theorem OwnI.kept {w' : World} {row : Option Nat} (h : OwnI w base v xs) (hg : w.grownBy w' row) (hne : v.ownBlock = none ∨ v.ownBlock ≠ row) : OwnI w' base v xs := World.ownsRow.kept h hg hne
end

/-- the one cell that 'append(out, x)' lays first -/
theorem Ints.one (w : World) (lo : Nat) (x : Int) (hl : lo ≤ w.heap.size) : Ints (w.alloc (.cells #[.int .i64 x] 3)) lo (.slice (some ⟨w.heap.size, 0, none⟩) 1 1) [x] :=
 (OwnI.ints (World.ownsRow_lit w #[.int .i64 x] 1 hl (by decide) rfl : OwnI _ lo _ [x]) (by simp))

theorem Ext.below {a w w' : World} {B : Nat} (h : Ext a w) (k : Below B w w') (hB : a.heap.size ≤ B) : Ext a w' := Below.trans h (k.mono hB)
theorem below_cell {B : Nat} {w w' : World} (h : Below B w w') {b o : Nat} {v : Value} (hb : b < B) (hc : w.cell? ⟨b, o, none⟩ = some v) : w'.cell? ⟨b, o, none⟩ = some v :=
 (Below.cell (p := ⟨b, o, none⟩) h hb).trans hc

section
variable {w : World} {src : Value} {ys : List Int} {lo : Nat}
/-- 'append([]int{}, src...)': onto a slice without room -/
theorem run_app0 (ad : Addr) (ty : TypeId) (hs : Ints w lo src ys) :
  ∃ v' w', (Builtin.append_ #[23, 23] ty #[.slice (some ad) 0 0, src]).run Try.prog w = .ok v' w' ∧ OwnZ w' w.heap.size v' ys ∧ Ext w w' ∧ (ys ≠ [] → v'.ownBlock = some w.heap.size) := by
 obtain ⟨i0, hi, hz0, hz1, hz2⟩ := info_parts infoInt
 have hs' := hs
 obtain ⟨a, cap, rfl, h1, h2, ⟨h3', h3⟩, h4⟩ := hs
 by_cases he : ys = []
 ·
  subst he
  refine ⟨.slice (some ad) 0 0, w, ?_, .inl ⟨rfl, some ad, 0, rfl, by simp, fun h => by cases h⟩, Ext.refl _, fun h => absurd rfl h⟩
  cases a with
  | none => simp [Builtin.append_, run_underlying Try.underlying23, sizeOf, typeInfo, hi, Builtin.lenOf, Builtin.firstCells, storeCells]
  | some x => simp [Builtin.append_, run_underlying Try.underlying23, sizeOf, typeInfo, hi, Builtin.lenOf, Builtin.firstCells, storeCells, loadCells, loadCellsFrom]
 ·
  have hpos : 0 < ys.length := by cases ys <;> simp_all
  obtain ⟨b0, off0, rfl, _⟩ := h4 0 hpos
  obtain ⟨a', cap', hv, _, hat, hl, h1c⟩ := hs'.src
  cases hv
  have hr := run_append_grow (P := Try.prog) w 23 ty 3 i0 (.int .i64 0) Try.underlying23 hi hz0 ad 0 0 [] (by simp) (fun j u hu => by simp at hu) ⟨b0, off0, none⟩ ys.length cap (ys.map (Value.int .i64)) (by rw [hz1]; simp) (hat _ rfl) (by omega) (by omega) (growslice_fits (by omega) (by rw [hz2]; omega))
  refine ⟨_, _, hr, .inr ?_, ((Ext.refl w).drew).alloc _, fun _ => rfl⟩
  have hge := grownCap_ge w (0 + ys.length) 0 3
  have hcm : grownCap w (0 + ys.length) 0 3 ≤ maxLen := grownCap_le_maxLen w _ 0 _ (by unfold maxLen; omega)
  refine ⟨by simp, .inr ⟨w.heap.size, _, _, by simp, Nat.le_refl _, heap_alloc_new w.drew _, by simpa using hge, hcm, ?_, ?_⟩⟩
  ·
   simp [size_zeroCells, Value.cells]; simp at hge; omega
  ·
   simp

theorem wpList_app0 {ops : Array Oper} {rest : List Oper} {o : Oper} {a : Act} {Q : Exit → Act → World → Prop} (hgd : o.guard = none) (s x : Operand) (ad : Addr)
  (ho : o.op = .call { callee := .builtin .append, args := #[s, x], argTypes := #[23, 23] })
  (hs : a.eval s = .slice (some ad) 0 0) (hx : a.eval x = src) (hsrc : Ints w lo src ys)
  (hK : ∀ v' w', OwnZ w' w.heap.size v' ys → Ext w w' → (ys ≠ [] → v'.ownBlock = some w.heap.size) → wpList Try.prog ops Q rest (a.put o.dst v') w') : wpList Try.prog ops Q (o :: rest) a w := by
 refine wpList_plain hgd fun K hK' => ?_
 obtain ⟨v', w', hr, h1, h2, h3⟩ := run_app0 ad o.type hsrc
 unfold Oper.wp execOp
 simp only [ho, resolve, invoke, builtin, Sem.run_bind, Sem.run_pure, Result.andThen_ok, List.map_toArray, List.map_cons, List.map_nil, hs, hx, hr]
 exact hK' _ _ (hK v' w' h1 h2 h3)
end

theorem OwnZ.form {w : World} {base : Nat} {v : Value} {xs : List Int} (h : OwnZ w base v xs) : ∃ a n c, v = .slice a n c := by
 rcases h with ⟨_, a, cap, rfl, _⟩ | h
 ·
  exact ⟨_, _, _, rfl⟩
 ·
  rcases h.2 with ⟨rfl, _⟩ | ⟨g, cap, cur, rfl, _⟩ <;> exact ⟨_, _, _, rfl⟩
theorem Ints.form {w : World} {base : Nat} {v : Value} {xs : List Int} (h : Ints w base v xs) : ∃ a c, v = .slice a xs.length c := by
 obtain ⟨a, cap, rfl, _⟩ := h; exact ⟨_, _, rfl⟩

theorem quiet_left {P : Program} {f : FuncId} {args : Array Value} {w : World} {n : Nat} {v : Value}
  (h : Calls P f args (w.drewN n) fun e w' => e = .returned v ∧ w.drewN n = w') : Calls P f args (w.drewN n) fun e w'' => e = .returned v ∧ ∃ m, w'' = w.drewN m :=
 h.mono fun _ _ ⟨he, hm⟩ => ⟨he, n, hm.symm⟩
def Drawn (w w' : World) : Prop := ∃ m, w' = w.drewN m
theorem Drawn.refl (w : World) : Drawn w w := ⟨0, rfl⟩
theorem Drawn.drewN {a w : World} (h : Drawn a w) (n : Nat) : Drawn a (w.drewN n) := by obtain ⟨m, rfl⟩ := h; exact ⟨m + n, by rw [World.drewN_drewN]⟩
theorem Drawn.ext {a w : World} (h : Drawn a w) : Ext a w := by obtain ⟨m, rfl⟩ := h; exact (Ext.refl _).drewN _
theorem Ints.take {w : World} {lo : Nat} {a : Option Addr} {n c : Nat} {xs : List Int} (h : Ints w lo (.slice a n c) xs) (k : Nat) (hk : k ≤ n) : Ints w lo (.slice a k c) (xs.take k) := by
 obtain ⟨a', cap, hv, h1, h2, ⟨h3, h3'⟩, h4⟩ := h
 cases hv
 have hl : (xs.take k).length = k := by simp; omega
 refine ⟨a, c, by rw [hl], by omega, h2, ⟨by omega, h3'⟩, fun i hi => ?_⟩
 obtain ⟨b, off, ha, hb, hc, hf⟩ := h4 i (by omega)
 refine ⟨b, off, ha, hb, ?_, hf⟩
 rw [hc]; simp [show i < k by omega]

theorem OwnZ.lt {w : World} {base : Nat} {v : Value} {xs : List Int} (h : OwnZ w base v xs) (hn : xs ≠ []) : ∃ g, v.ownBlock = some g ∧ base ≤ g ∧ g < w.heap.size := by
 rcases h with ⟨h, _⟩ | h
 ·
  exact absurd h hn
 ·
  obtain ⟨g, cap, rfl, hb, hg⟩ := World.ownsRow.form h (by cases xs <;> simp_all)
  exact ⟨g, rfl, hb, hg⟩

/-- a slice that is only read, while another row grows -/
theorem Ints.keepG {w w' : World} {lo : Nat} {a : Option Addr} {n c : Nat} {xs : List Int} {row : Option Nat} (h : Ints w lo (.slice a n c) xs) (hg : w.grownBy w' row) (hne : ∀ b off, a = some ⟨b, off, none⟩ → xs ≠ [] → row ≠ some b) : Ints w' lo (.slice a n c) xs := by
 obtain ⟨a', cap, hv, h1, h2, h3, h4⟩ := h
 cases hv
 refine ⟨a, c, rfl, h1, h2, h3, fun i hi => ?_⟩
 obtain ⟨b, off, ha, hb, hc, hf⟩ := h4 i hi
 have hlt := World.block_lt_of_cell? _ _ hc
 have hn := hne b off ha (by intro h; subst h; simp at hi)
 exact ⟨b, off, ha, hb, (World.cell?_of_block (a := ⟨b, off + i, none⟩) (hg.block b hlt (Ne.symm hn))).trans hc, (World.frozen?_of_block (a := ⟨b, off + i, none⟩) (hg.block b hlt (Ne.symm hn))).trans hf⟩
/-- where such a slice lies -/
theorem Ints.blk {w : World} {lo : Nat} {a : Option Addr} {n c : Nat} {xs : List Int} (h : Ints w lo (.slice a n c) xs) (hn : xs ≠ []) : ∃ b off, a = some ⟨b, off, none⟩ ∧ lo ≤ b ∧ b < w.heap.size := by
 obtain ⟨a', cap, hv, h1, h2, h3, h4⟩ := h
 cases hv
 obtain ⟨b, off, ha, hb, hc, hf⟩ := h4 0 (by cases xs <;> simp_all)
 exact ⟨b, off, ha, hb, World.block_lt_of_cell? _ _ hc⟩

/-- only blocks from lo on, below hi, have turned -/
structure Chg (lo hi : Nat) (w w' : World) : Prop where
 os : w'.os = w.os
 tape : w'.tape = w.tape
 output : w'.output = w.output
 size : w.heap.size ≤ w'.heap.size
 block : ∀ k, k < w.heap.size → (k < lo ∨ hi ≤ k) → w'.heap[k]? = w.heap[k]?
theorem Chg.refl (lo hi : Nat) (w : World) : Chg lo hi w w := ⟨rfl, rfl, rfl, Nat.le_refl _, fun _ _ _ => rfl⟩
theorem Chg.trans {lo hi : Nat} {a b c : World} (h : Chg lo hi a b) (k : Chg lo hi b c) : Chg lo hi a c :=
 ⟨k.os.trans h.os, k.tape.trans h.tape, k.output.trans h.output, Nat.le_trans h.size k.size, fun i hi hd => (k.block i (Nat.lt_of_lt_of_le hi h.size) hd).trans (h.block i hi hd)⟩
theorem Chg.setCell {lo hi : Nat} {a w : World} (h : Chg lo hi a w) {p : Addr} (h1 : lo ≤ p.block) (h2 : p.block < hi) (u : Value) : Chg lo hi a (w.setCell p u) :=
 h.trans ⟨rfl, rfl, rfl, by simp, fun k hk hd => Below.heap_setCell _ _ _ _ (by omega)⟩
theorem Chg.ext {lo hi : Nat} {a w w' : World} (h : Chg lo hi a w) (k : Ext w w') : Chg lo hi a w' :=
 h.trans ⟨k.os, k.tape, k.output, k.size, fun i hi _ => k.block i hi⟩
theorem Chg.of_ext {lo hi : Nat} {a w : World} (k : Ext a w) : Chg lo hi a w := (Chg.refl _ _ _).ext k
theorem Chg.mono {lo hi lo' hi' : Nat} {a w : World} (h : Chg lo hi a w) (h1 : lo' ≤ lo) (h2 : hi ≤ hi') : Chg lo' hi' a w := ⟨h.os, h.tape, h.output, h.size, fun k hk hd => h.block k hk (by omega)⟩
theorem Ext.chg {lo hi : Nat} {a w w' : World} (h : Ext a w) (k : Chg lo hi w w') (hl : a.heap.size ≤ lo) : Ext a w' :=
 ⟨k.os.trans h.os, k.tape.trans h.tape, k.output.trans h.output, Nat.le_trans h.size k.size, fun i hi => (k.block i (Nat.lt_of_lt_of_le hi h.size) (.inl (by omega))).trans (h.block i hi)⟩
theorem OwnI.chg {lo hi : Nat} {w w' : World} {base : Nat} {v : Value} {xs : List Int} (h : OwnI w base v xs) (k : Chg lo hi w w') (hb : hi ≤ base) : OwnI w' base v xs := by
 refine ⟨h.1, ?_⟩
 rcases h.2 with h2 | ⟨g, cap, cur, hv, hg, hh, r⟩
 ·
  exact .inl h2
 ·
  exact .inr ⟨g, cap, cur, hv, hg, (k.block g (Array.getElem?_eq_some_iff.1 hh).1 (.inr (by omega))).trans hh, r⟩
theorem OwnZ.chg {lo hi : Nat} {w w' : World} {base : Nat} {v : Value} {xs : List Int} (h : OwnZ w base v xs) (k : Chg lo hi w w') (hb : hi ≤ base) : OwnZ w' base v xs := h.imp id fun h => h.chg k hb
theorem Ints.chg {lo hi : Nat} {w w' : World} {l : Nat} {v : Value} {xs : List Int} (h : Ints w l v xs) (k : Chg lo hi w w') (hb : hi ≤ l) : Ints w' l v xs := by
 obtain ⟨a, cap, hv, h1, h2, h3, h4⟩ := h
 refine ⟨a, cap, hv, h1, h2, h3, fun i hi' => ?_⟩
 obtain ⟨b, off, ha, hl, hc, hf⟩ := h4 i hi'
 have hlt := World.block_lt_of_cell? _ _ hc
 exact ⟨b, off, ha, hl, (World.cell?_of_block (a := ⟨b, off + i, none⟩) (k.block b hlt (.inr (by omega)))).trans hc, (World.frozen?_of_block (a := ⟨b, off + i, none⟩) (k.block b hlt (.inr (by omega)))).trans hf⟩
theorem Chg.cell {lo hi : Nat} {w w' : World} (k : Chg lo hi w w') {b o : Nat} {v : Value} (hd : b < lo ∨ hi ≤ b) (hc : w.cell? ⟨b, o, none⟩ = some v) : w'.cell? ⟨b, o, none⟩ = some v :=
 (World.cell?_of_block (a := ⟨b, o, none⟩) (k.block b (World.block_lt_of_cell? _ _ hc) hd)).trans hc

theorem qCh {p : Prop} (h : p := by repeat (first | (with_reducible exact Chg.refl _ _ _) | (with_reducible refine Chg.setCell ?_ (by first | exact Nat.le_refl _ | (simp; done) | (simp; omega) | omega) (by first | exact Nat.lt_succ_self _ | (simp; done) | (simp; omega) | omega) _) | (with_reducible refine Chg.ext ?_ (Ext.alloc (Ext.refl _) _)) | (with_reducible refine Chg.ext ?_ (Ext.drew (Ext.refl _))))) : p := h

end Go.Proofs.Ytpgkhjmboiepcaa

/- Walks of the program's counting functions. -/
namespace Go.Proofs.Ytpgkhjmboiepcaa
open Go.RowKit
set_option linter.unusedVariables false
set_option maxRecDepth 100000

def countL (xs : List Int) : Int := xs.foldl (fun n x => wrap64 (n * x)) 1
theorem countL_take (xs : List Int) (k : Nat) (hk : k < xs.length) :
    countL (xs.take (k+1)) = wrap64 (countL (xs.take k) * xs.getD k 0) := by
  unfold countL; rw [List.take_succ_eq_append_getElem hk, List.foldl_append]; simp [hk]

def dotL (base : Int) (ix st : List Int) : Int := (ix.zip st).foldl (fun a p => wrap64 (a + wrap64 (p.1 * p.2))) base
theorem dotL_take (base : Int) (ix st : List Int) (k : Nat) (hk : k < ix.length) (hs : k < st.length) :
    dotL base (ix.take (k+1)) st = wrap64 (dotL base (ix.take k) st + wrap64 (ix.getD k 0 * st.getD k 0)) := by
  unfold dotL
  have e : ∀ n : Nat, (ix.take n).zip st = (ix.zip st).take n := by
    intro n
    apply List.ext_getElem
    · simp <;> omega
    · intro i h1 h2; simp
  rw [e, e, List.take_succ_eq_append_getElem (by simp; omega), List.foldl_append]
  simp [hk, hs]

set_option maxHeartbeats 400000 in
theorem countOf_c (xs : List Int) (v : Value) (w : World) (lo : Nat) (hv : Ints w lo v xs) :
    Calls Try.prog 47 #[v] w fun e w' => e = .returned (.int .i64 (countL xs)) ∧ w = w' := by
  obtain ⟨a, cap, rfl, hlc, hcm, ⟨hlen, _⟩, hc⟩ := hv
  go_enter Try.func47, Try.ntmps47
  go_wp2
  go_loop [3, 8] (fun n i => ∃ k : Nat, k ≤ xs.length ∧ i = .int .i64 k ∧ n = .int .i64 (countL (xs.take k))) (fun _ i => xs.length - (intOf i).toNat)
  case atStart => exact ⟨0, Nat.zero_le _, rfl, rfl⟩
  case round =>
    obtain ⟨k, hk, rfl, rfl⟩ := hrel
    by_cases hlt : k < xs.length
    · obtain ⟨b, off, rfl, _, hcell, _⟩ := hc k hlt
      have hs := Lib.hid (countL_take xs k hlt)
      clear hc
      go_wp2
      go_round
      case rel => exact ⟨k+1, by omega, by go_num, by rw [hs.out]; simp [hlt]⟩
      case measure => simp [intOf]; omega
    · obtain rfl : k = xs.length := by omega
      go_wp2
      go_ret
      exact ⟨by simp, rfl⟩

set_option maxHeartbeats 400000 in
theorem offsetAt_c (base : Int) (shv st ix : Value) (sts ixs : List Int) (w : World) (lo lo' : Nat) (hst : Ints w lo st sts) (hix : Ints w lo' ix ixs) (hl : ixs.length ≤ sts.length) :
    Calls Try.prog 109 #[.agg #[.int .i64 base, shv, st], ix] w fun e w' => e = .returned (.int .i64 (dotL base ixs sts)) ∧ Ext w w' := by
  obtain ⟨a, cap, rfl, hlc, hcm, ⟨hlen, _⟩, hc⟩ := hst
  obtain ⟨a2, cap2, rfl, hlc2, hcm2, ⟨hlen2, _⟩, hc2⟩ := hix
  go_enter Try.func109, Try.ntmps109
  go_wp2
  go_loop [5, 12] (fun n i => ∃ k : Nat, k ≤ ixs.length ∧ i = .int .i64 k ∧ n = .int .i64 (dotL base (ixs.take k) sts)) (fun _ i => ixs.length - (intOf i).toNat)
  case atStart => exact ⟨0, Nat.zero_le _, rfl, rfl⟩
  case round =>
    obtain ⟨k, hk, rfl, rfl⟩ := hrel
    by_cases hlt : k < ixs.length
    · obtain ⟨b, off, rfl, _, hcell, _⟩ := hc k (by omega)
      obtain ⟨b2, off2, rfl, _, hcell2, _⟩ := hc2 k hlt
      have hbl := qB hcell
      have hbl2 := qB hcell2
      have hs := Lib.hid (dotL_take base ixs sts k hlt (by omega))
      have hk2 : k < sts.length := by omega
      clear hc hc2
      go_wp2
      go_round
      case rel => exact ⟨k+1, by omega, by go_num, by rw [hs.out]; simp [hlt, hk2]⟩
      case measure => simp [intOf]; omega
    · obtain rfl : k = ixs.length := by omega
      go_wp2
      go_ret
      exact ⟨by simp, (Ext.refl _).alloc _⟩

theorem set_rep (m : Nat) (x : Int) (l : List Int) : (List.replicate (m+1) 0 ++ l).set m x = List.replicate m 0 ++ x :: l := by
  rw [List.set_append_left _ _ (by simp), List.replicate_succ']
  rw [List.set_append_right _ _ (by simp)]; simp
def unStep (e : Int) (p : List Int × Int) : List Int × Int := (p.2 % e :: p.1, p.2 / e)
def unrL (shape : List Int) (k : Int) : List Int × Int := shape.foldr unStep ([], k)
theorem unrL_drop (shape : List Int) (k : Int) (j : Nat) (hj : j < shape.length) : unrL (shape.drop j) k = unStep (shape.getD j 0) (unrL (shape.drop (j+1)) k) := by
  unfold unrL; rw [List.drop_eq_getElem_cons hj, List.foldr_cons]; simp [hj]
theorem unrL_len (shape : List Int) (k : Int) : (unrL shape k).1.length = shape.length := by
  induction shape with
  | nil => rfl
  | cons e s ih => simp [unrL, unStep] at ih ⊢; exact ih
theorem unrL_pos (shape : List Int) (k : Int) (hk : 0 ≤ k) (hp : ∀ e ∈ shape, 1 ≤ e) : 0 ≤ (unrL shape k).2 := by
  induction shape with
  | nil => simpa [unrL]
  | cons e s ih =>
    have := ih (fun e he => hp e (List.mem_cons_of_mem _ he))
    simp only [unrL, List.foldr_cons, unStep] at this ⊢
    exact Int.ediv_nonneg this (by have := hp e (List.mem_cons_self ..); omega)

theorem unrL_le (shape : List Int) (k : Int) (hk : 0 ≤ k) (hp : ∀ e ∈ shape, 1 ≤ e) : (unrL shape k).2 ≤ k := by
  induction shape with
  | nil => simp [unrL]
  | cons e s ih =>
    have := ih (fun e he => hp e (List.mem_cons_of_mem _ he))
    have h0 := unrL_pos s k hk (fun e he => hp e (List.mem_cons_of_mem _ he))
    simp only [unrL, List.foldr_cons, unStep] at this h0 ⊢
    exact Int.le_trans (Int.ediv_le_self _ h0) this

set_option maxHeartbeats 400000 in
theorem indexAt_c (xs : List Int) (v : Value) (k : Int) (w : World) (lo : Nat) (hv : Ints w lo v xs) (hk : 0 ≤ k) (hk2 : k ≤ 1000000) (hp : ∀ e ∈ xs, 1 ≤ e) :
    Calls Try.prog 48 #[v, .int .i64 k] w (PInts w (unrL xs k).1) := by
  obtain ⟨a, cap, rfl, hlc, hcm, ⟨hlen, _⟩, hc⟩ := hv
  obtain ⟨i0, hi, hz0, hz1, hz2⟩ := info_parts infoInt
  go_enter Try.func48, Try.ntmps48
  go_wp2_with (at_make; refine wpList_make_full _ rfl _ _ 23 rfl w.heap.size 3 i0 (.int .i64 0) 1 Try.underlying23 hi hz0 hz1 .i64 .i64 _ _ xs.length rfl rfl rfl rfl (by rw [hz2]; omega) (by unfold maxLen; omega) (Nat.le_refl _) ?_)
  intro w1 hown hgr
  have hx : Ext w w1 := (Ext.refl w).grown hgr (by simp)
  rw [made_ints] at hown
  clear hgr
  go_wp2
  go_loopw [1, 6] (fun kk i wr => ∃ j : Nat, j ≤ xs.length ∧ i = .int .i64 ((j : Int) - 1) ∧ kk = .int .i64 (unrL (xs.drop j) k).2 ∧
      wr.ownsRow w.heap.size 3 1 (.slice (some ⟨w.heap.size, 0, none⟩) xs.length xs.length) xs.length ((List.replicate j 0 ++ (unrL (xs.drop j) k).1).map (Value.int .i64)) ∧ Ext w wr)
    (fun _ i _ => (intOf i + 1).toNat)
  case atStart => exact ⟨xs.length, Nat.le_refl _, by go_num, by simp [unrL], by simpa [unrL] using hown, hx⟩
  case round =>
    obtain ⟨j, hj, rfl, rfl, ho, hxr⟩ := hrel
    cases j with
    | zero =>
      go_wp2
      go_ret
      refine PInts.mk (base := w.heap.size) ?_ (Nat.le_refl _) (by rw [unrL_len]; omega) hxr
      unfold OwnI; rw [unrL_len]; simpa using ho
    | succ m =>
      rw [show ((m + 1 : Nat) : Int) - 1 = (m : Int) by omega]
      obtain ⟨b, off, rfl, _, hcell, _⟩ := hc m (by omega)
      have hcell' := hxr.cell hcell
      have hbl := qB hcell
      obtain ⟨hoc, hof⟩ := own_cell ho m (by omega)
      have h1 : 1 ≤ xs[m]?.getD 0 := by
        rw [List.getElem?_eq_getElem (by omega)]; exact hp _ (List.getElem_mem ..)
      have h0 : 0 ≤ (unrL (xs.drop (m+1)) k).2 := unrL_pos _ _ hk (fun e he => hp e (List.mem_of_mem_drop he))
      have h0' : (unrL (xs.drop (m+1)) k).2 ≤ 1000000 := by
        have := unrL_le (xs.drop (m+1)) k hk (fun e he => hp e (List.mem_of_mem_drop he)); omega
      have hs := Lib.hid (unrL_drop xs k m (by omega))
      have hn := Lib.hid (own_set ho m ((unrL (xs.drop (m+1)) k).2 % xs.getD m 0) (by omega))
      clear hc ho
      go_wp2
      go_roundw
      case rel =>
        refine ⟨m, by omega, rfl, by rw [hs.out]; simp [unStep], ?_, hxr.setCell (Nat.le_refl _) _⟩
        have := hn.out
        rw [hs.out]
        rw [set_rep] at this
        simpa [unStep] using this
      case measure => simp [intOf]

theorem all_take {α : Type} (p : α → Bool) (xs : List α) (k : Nat) (hk : k < xs.length) (h : (xs.take k).all p = true) (hx : p xs[k] = true) : (xs.take (k+1)).all p = true := by
  rw [List.take_succ_eq_append_getElem hk, List.all_append, h]; simp [hx]
theorem all_no {α : Type} (p : α → Bool) (xs : List α) (k : Nat) (hk : k < xs.length) (hx : p xs[k] = false) : xs.all p = false := by
  rw [Bool.eq_false_iff]; intro h
  rw [List.all_eq_true] at h
  have := h _ (List.getElem_mem hk); simp [hx] at this

def inB (lo hi : Int) (e : Int) : Bool := decide (lo ≤ e ∧ e ≤ hi)
def shapeB (xs : List Int) : Bool := decide (xs.length ≤ 4) && xs.all (inB 0 60) && decide (countL xs ≤ 60)

set_option maxHeartbeats 400000 in
theorem isShape_c (xs : List Int) (v : Value) (w : World) (lo : Nat) (hv : Ints w lo v xs) :
    Calls Try.prog 62 #[v] w fun e w' => e = .returned (.bool (shapeB xs)) ∧ w = w' := by
  have hv0 := Lib.hid hv
  obtain ⟨a, cap, rfl, hlc, hcm, ⟨hlen, _⟩, hc⟩ := hv
  by_cases h4 : xs.length ≤ 4
  · go_enter Try.func62, Try.ntmps62
    go_wp2_with fail
    go_loop [10] (fun i => ∃ k : Nat, k ≤ xs.length ∧ i = .int .i64 k ∧ (xs.take k).all (inB 0 60) = true) (fun i => xs.length - (intOf i).toNat)
    case atStart => exact ⟨0, Nat.zero_le _, rfl, rfl⟩
    case round =>
      obtain ⟨k, hk, rfl, hall0⟩ := hrel
      have hall := Lib.hid hall0
      clear hall0
      by_cases hlt : k < xs.length
      · obtain ⟨b, off, rfl, _, hcell, _⟩ := hc k hlt
        clear hc
        go_wp2_with fail
        all_goals first
          | (go_ret; exact ⟨by simp [shapeB, all_no (inB 0 60) xs k hlt (by unfold inB; simp; omega)], rfl⟩)
          | (go_round; (case rel => exact ⟨k+1, by omega, by go_num, all_take _ xs k hlt hall.out (by unfold inB; simp; omega)⟩); (case measure => simp [intOf]; omega))
      · obtain rfl : k = xs.length := by omega
        go_wp2_with (go_at_call 47; refine (countOf_c xs _ _ lo hv0.out).mono ?_; rintro e w' ⟨rfl, rfl⟩)
        go_ret
        exact ⟨by have := hall.out; simp only [List.take_length] at this; simp [shapeB, h4, this], rfl⟩
  · go_enter Try.func62, Try.ntmps62
    go_wp2_with fail
    go_ret
    exact ⟨by simp [shapeB, h4], rfl⟩

end Go.Proofs.Ytpgkhjmboiepcaa

/- Walks of the program's views. -/
namespace Go.Proofs.Ytpgkhjmboiepcaa
open Go.RowKit
set_option linter.unusedVariables false
set_option maxRecDepth 100000

/-- a closure that only computes: what it answers -/
def Asks (F : Nat) (cs : Array Value) (w : World) (p : Int → Bool) : Prop :=
  (∃ fn, Try.prog.funcs[F]? = some fn ∧ fn.body.isSome = true ∧ fn.name ≠ "runtime.NumGoroutine") ∧
  ∀ x, Calls Try.prog F (#[.int .i64 x] ++ cs) w fun e w' => e = .returned (.bool (p x)) ∧ w = w'

theorem run_callFunc (F : Nat) (args : Array Value) (w : World) (h : ∃ fn, Try.prog.funcs[F]? = some fn ∧ fn.body.isSome = true ∧ fn.name ≠ "runtime.NumGoroutine") :
    (callFunc F args).run Try.prog w = .ok (.enter F args) w := by
  obtain ⟨fn, hf, hb, hn⟩ := h
  unfold callFunc
  have : fn.body.isNone = false := by cases h : fn.body <;> simp_all
  simp [hf, hn]
  intro h; simp [h] at hb

theorem any_take {α : Type} (p : α → Bool) (xs : List α) (k : Nat) (hk : k < xs.length) (h : (xs.take k).any p = false) (hx : p xs[k] = false) : (xs.take (k+1)).any p = false := by
  rw [List.take_succ_eq_append_getElem hk, List.any_append, h]; simp [hx]
theorem any_yes {α : Type} (p : α → Bool) (xs : List α) (k : Nat) (hk : k < xs.length) (hx : p xs[k] = true) : xs.any p = true := List.any_eq_true.2 ⟨_, List.getElem_mem hk, hx⟩

def findI (p : Int → Bool) (xs : List Int) : Int := if xs.any p then (xs.findIdx p : Int) else -1
theorem findI_yes (p : Int → Bool) (xs : List Int) (k : Nat) (hk : k < xs.length) (h : (xs.take k).any p = false) (hx : p xs[k] = true) : findI p xs = k := by
  unfold findI; rw [if_pos (any_yes p xs k hk hx)]
  congr 1
  have h1 : xs.findIdx p ≤ k := by
    rw [← Nat.lt_succ_iff]
    exact (List.findIdx_lt_length_of_exists ⟨_, List.getElem_mem hk, hx⟩ |> fun _ => Nat.lt_succ_of_le (by
      rcases Nat.lt_or_ge k (xs.findIdx p) with h' | h'
      · have := List.not_of_lt_findIdx h'; simp [hx] at this
      · exact h'))
  rcases Nat.lt_or_ge (xs.findIdx p) k with h' | h'
  · have hl : xs.findIdx p < xs.length := by omega
    have := List.findIdx_getElem (w := hl)
    rw [Bool.eq_false_iff] at h
    exact absurd (List.any_eq_true.2 ⟨xs[xs.findIdx p], List.mem_take_iff_getElem.2 ⟨_, by omega, rfl⟩, this⟩) h
  · omega
theorem findI_no (p : Int → Bool) (xs : List Int) (h : xs.any p = false) : findI p xs = -1 := by simp [findI, h]

set_option maxHeartbeats 400000 in
theorem indexFunc_c (F : Nat) (cs : Array Value) (p : Int → Bool) (xs : List Int) (v : Value) (w : World) (lo : Nat) (hv : Ints w lo v xs) (hF : Asks F cs w p) :
    Calls Try.prog 114 #[v, .func (.func F) #[] cs] w fun e w' => e = .returned (.int .i64 (findI p xs)) ∧ w = w' := by
  obtain ⟨hf, hF⟩ := hF
  have hr := fun args w => run_callFunc F args w hf
  obtain ⟨a, cap, rfl, hlc, hcm, ⟨hlen, _⟩, hc⟩ := hv
  go_enter Try.func114, Try.ntmps114
  go_wp2_with fail
  go_loop [8] (fun i => ∃ k : Nat, k ≤ xs.length ∧ i = .int .i64 k ∧ (xs.take k).any p = false) (fun i => xs.length - (intOf i).toNat)
  case atStart => exact ⟨0, Nat.zero_le _, rfl, rfl⟩
  case round =>
    obtain ⟨k, hk, rfl, hall0⟩ := hrel
    have hall := Lib.hid hall0
    clear hall0
    by_cases hlt : k < xs.length
    · obtain ⟨b, off, rfl, _, hcell, _⟩ := hc k hlt
      clear hc
      cases hp : p xs[k]
      · go_wp2_with fail
        refine (hF _).mono ?_
        rintro e w' ⟨rfl, rfl⟩
        go_wp2_with fail
        go_round
        case rel => exact ⟨k+1, by omega, by go_num, any_take p xs k hlt hall.out hp⟩
        case measure => simp [intOf]; omega
      · have hs := Lib.hid (findI_yes p xs k hlt hall.out hp)
        go_wp2_with fail
        refine (hF _).mono ?_
        rintro e w' ⟨rfl, rfl⟩
        go_wp2_with fail
        go_ret
        exact ⟨by rw [hs.out]; rfl, rfl⟩
    · obtain rfl : k = xs.length := by omega
      go_wp2_with fail
      go_ret
      exact ⟨by rw [findI_no p xs (by simpa using hall.out)]; rfl, rfl⟩

theorem findI_ge (p : Int → Bool) (xs : List Int) : decide (0 ≤ findI p xs) = xs.any p := by
  unfold findI; cases h : xs.any p <;> simp

set_option maxHeartbeats 400000 in
theorem containsFunc_c (F : Nat) (cs : Array Value) (p : Int → Bool) (xs : List Int) (v : Value) (w : World) (lo : Nat) (hv : Ints w lo v xs) (hF : Asks F cs w p) :
    Calls Try.prog 87 #[v, .func (.func F) #[] cs] w fun e w' => e = .returned (.bool (xs.any p)) ∧ w = w' := by
  have hg := Lib.hid (findI_ge p xs)
  go_enter Try.func87, Try.ntmps87
  go_wp2_with (go_at_call 114; refine (indexFunc_c F cs p xs _ _ lo hv hF).mono ?_; rintro e w' ⟨rfl, rfl⟩)
  go_ret
  exact ⟨by rw [← hg.out]; rfl, rfl⟩

/-- the closure of isView: a cell that is none of a memory -/
def outB (x : Int) : Bool := decide (x < 0) || decide (60 ≤ x)
theorem isViewF_c (w : World) : Asks 88 #[] w outB := by
  refine ⟨⟨Try.f88, Try.func88, rfl, by decide +kernel⟩, fun x => ?_⟩
  rw [show (#[Value.int .i64 x] ++ #[]) = #[.int .i64 x] by simp]
  by_cases h : x < 0
  · go_enter Try.func88, Try.ntmps88
    go_wp2_with fail
    go_ret
    exact ⟨by simp [outB, h], rfl⟩
  · have h' : ¬ (x < 0) := h
    go_enter Try.func88, Try.ntmps88
    go_wp2_with fail
    go_ret
    exact ⟨by simp [outB]; omega, rfl⟩

def offsL (base : Int) (shape strides : List Int) : List Int :=
  (List.range (countL shape).toNat).map fun (k : Nat) => dotL base (unrL shape k).1 strides

set_option maxHeartbeats 400000 in
theorem offsetsOf_c (base : Int) (sh st : Value) (shape strides : List Int) (w : World) (lo lo' : Nat) (hsh : Ints w lo sh shape) (hst : Ints w lo' st strides)
    (hl : shape.length ≤ strides.length) (hp : 0 < countL shape → ∀ e ∈ shape, 1 ≤ e) (hcnt : countL shape ≤ 1000000) :
    Calls Try.prog 82 #[.agg #[.int .i64 base, sh, st]] w (PInts w (offsL base shape strides)) := by
  obtain ⟨i0, hi, hz0, hz1, hz2⟩ := info_parts infoInt
  go_enter Try.func82, Try.ntmps82
  go_wp2_with (go_at_call 47; refine (countOf_c shape _ _ lo (hsh.ext ((Ext.refl _).alloc _ |>.alloc _))).mono ?_; rintro e w' ⟨rfl, rfl⟩)
  go_loopw [3, 9] (fun v i wr => ∃ k : Nat, k ≤ (offsL base shape strides).length ∧ i = .int .i64 k ∧ OwnI wr (w.heap.size + 1) v ((offsL base shape strides).take k) ∧
      wr.cell? ⟨w.heap.size, 0, none⟩ = some (.int .i64 base) ∧ wr.cell? ⟨w.heap.size, 1, none⟩ = some sh ∧ wr.cell? ⟨w.heap.size, 2, none⟩ = some st ∧ Ext w wr ∧ w.heap.size < wr.heap.size)
    (fun _ i _ => (offsL base shape strides).length - (intOf i).toNat)
  case atStart =>
    refine ⟨0, Nat.zero_le _, rfl, ?_, by simp, by simp, by simp, (Ext.refl _).alloc _ |>.alloc _, by simp; omega⟩
    simpa using OwnI.lit0 (w.alloc (.cells #[.int .i64 base, sh, st] 25)) (w.heap.size + 1) (by simp)
  case round =>
    obtain ⟨k, hk, rfl, ho, c0, c1, c2, hx, hz⟩ := hrel
    have hlen : (offsL base shape strides).length = (countL shape).toNat := by simp [offsL]
    by_cases hlt : k < (offsL base shape strides).length
    · have hkc : (k : Int) < countL shape := by omega
      go_wp2_with fail
      have hz2 : w.heap.size + 1 ≤ wr.heap.size := hz
      go_region_law (first
        | (go_simp; go_at_call 48; refine (indexAt_c shape _ (k : Int) _ lo (hsh.ext (by exact hx.drew)) (by omega) (by omega) (hp (by omega))).mono ?_; rintro e w1 ⟨v1, rfl, hi1, _, hx1⟩; have hr1 : ∀ b o, b < wr.heap.size → w1.cell? ⟨b, o, none⟩ = wr.cell? ⟨b, o, none⟩ := hx1.rule)
        | (go_simp; go_at_call 109; refine (offsetAt_c base _ _ _ strides _ _ lo' _ (hst.ext (by exact hx.trans (Ext.trans ((Ext.refl _).drew) hx1))) hi1 (by rw [unrL_len]; exact hl)).mono ?_; rintro e w2 ⟨rfl, hx2'⟩; have hs2 := hx2'.size; have hs1 := hx1.size; have hx2 : Ext wr w2 := (Ext.trans ((Ext.refl _).drew) hx1).trans hx2'; have hr2 : ∀ b o, b < wr.heap.size → w2.cell? ⟨b, o, none⟩ = wr.cell? ⟨b, o, none⟩ := hx2.rule)
        | (refine step_app rfl (.tmp 12) (.tmp 19) rfl rfl rfl ((ho.ext hx2).ext ((Ext.refl _).alloc _)) (Ints.one _ 0 _ (Nat.zero_le _)) (by simp; omega) (by simp at hs1; simp; omega) ?_; intro v' w3 ho3 hg3 hb3 _))
      all_goals
        have hxa := (hx.trans hx2).alloc (.cells #[.int .i64 (dotL base (unrL shape k).1 strides)] 3)
        have d0 := below_cell hb3 (b := w.heap.size) (by omega) (((Ext.alloc hx2 _).cell c0))
        have d1 := below_cell hb3 (b := w.heap.size) (by omega) (((Ext.alloc hx2 _).cell c1))
        have d2 := below_cell hb3 (b := w.heap.size) (by omega) (((Ext.alloc hx2 _).cell c2))
        have hz3 := hb3.size
        simp at hz3 hs1
        have ho4 : OwnI w3 (w.heap.size + 1) v' ((offsL base shape strides).take (k+1)) := by
          rw [List.take_succ_eq_append_getElem hlt]
          simpa [offsL] using ho3
        have hx3 := hxa.below hb3 (by omega)
        clear ho3 hg3 hb3 hxa hr1 hr2 hx2 hx2' hx1 ho
        go_wp2_with fail
        go_roundw
        case rel => exact ⟨k+1, by omega, by go_num, ho4, d0, d1, d2, hx3, by omega⟩
        case measure => simp [intOf]; omega
    · have hkk : k = (offsL base shape strides).length := by omega
      have hge : ¬ (k : Int) < countL shape := by omega
      rw [hkk, List.take_length] at ho
      have hI := Lib.hid ho
      clear ho hkk
      go_wp2_with fail
      go_ret
      exact PInts.mk hI.out (Nat.le_succ _) (by omega) hx
end Go.Proofs.Ytpgkhjmboiepcaa

/- The walk of the program's isView. -/
namespace Go.Proofs.Ytpgkhjmboiepcaa
open Go.RowKit
set_option linter.unusedVariables false
set_option maxRecDepth 100000

theorem countL_zero_or {xs : List Int} (hl : xs.length ≤ 4) (hb : ∀ e ∈ xs, 0 ≤ e ∧ e ≤ 60) : 0 ≤ countL xs ∧ countL xs ≤ 12960000 ∧ (0 < countL xs → ∀ e ∈ xs, 1 ≤ e) ∧ countL xs = xs.foldr (· * ·) 1 := by
  have key : ∀ (xs : List Int) (n B : Int), 0 ≤ n → n ≤ B → B * 60 ^ xs.length ≤ 12960000 → (∀ e ∈ xs, 0 ≤ e ∧ e ≤ 60) →
      xs.foldl (fun n x => wrap64 (n * x)) n = n * xs.foldr (· * ·) 1 ∧ 0 ≤ xs.foldr (· * ·) 1 ∧ n * xs.foldr (· * ·) 1 ≤ 12960000 ∧ (0 < xs.foldr (· * ·) 1 → ∀ e ∈ xs, 1 ≤ e) := by
    intro xs
    induction xs with
    | nil => intro n B h0 h1 h2 _; simp at h2 ⊢; omega
    | cons x xs ih =>
      intro n B h0 h1 h2 hb
      have hx := hb x (List.mem_cons_self ..)
      have hB : 0 ≤ B := by omega
      have hnx : n * x ≤ B * 60 := Int.mul_le_mul h1 hx.2 hx.1 hB
      have hnx0 : 0 ≤ n * x := Int.mul_nonneg h0 hx.1
      have hp : (1 : Int) ≤ 60 ^ xs.length := Int.pow_pos (by decide)
      have h2' : B * 60 * 60 ^ xs.length ≤ 12960000 := by
        rw [List.length_cons, Int.pow_succ] at h2
        rw [Int.mul_assoc, Int.mul_comm 60]; exact h2
      have hB60 : B * 60 ≤ 12960000 := Int.le_trans (by
        have := Int.mul_le_mul_of_nonneg_left hp (show 0 ≤ B * 60 by omega)
        simpa using this) h2'
      have hw : wrap64 (n * x) = n * x := IntWalk.wrap64_in _ ⟨by omega, by omega⟩
      obtain ⟨e1, e2, e3, e4⟩ := ih (n * x) (B * 60) hnx0 hnx h2' (fun e he => hb e (List.mem_cons_of_mem _ he))
      refine ⟨?_, ?_, ?_, ?_⟩
      · rw [List.foldl_cons, hw, e1, List.foldr_cons, Int.mul_assoc]
      · rw [List.foldr_cons]; exact Int.mul_nonneg hx.1 e2
      · rw [List.foldr_cons, ← Int.mul_assoc]; exact e3
      · rw [List.foldr_cons]; intro hpos e he
        have hx1 : 1 ≤ x := by
          rcases Int.lt_or_le 0 x with h | h
          · omega
          · have : x = 0 := by omega
            subst this; simp at hpos
        have : 0 < xs.foldr (· * ·) 1 := by
          rcases Int.lt_or_le 0 (xs.foldr (· * ·) 1) with h | h
          · exact h
          · have h0 : xs.foldr (· * ·) 1 = 0 := by omega
            rw [h0] at hpos; simp at hpos
        rcases List.mem_cons.1 he with rfl | he
        · exact hx1
        · exact e4 this e he
  have hpow : (1 : Int) * 60 ^ xs.length ≤ 12960000 := by
    have h4 : xs.length = 0 ∨ xs.length = 1 ∨ xs.length = 2 ∨ xs.length = 3 ∨ xs.length = 4 := by omega
    rcases h4 with h | h | h | h | h <;> rw [h] <;> decide
  obtain ⟨e1, e2, e3, e4⟩ := key xs 1 1 (by decide) (by decide) hpow hb
  have e : countL xs = xs.foldr (· * ·) 1 := by unfold countL; rw [e1]; simp
  rw [Int.one_mul] at e3
  exact ⟨by omega, by omega, fun h => e4 (by omega), e⟩
theorem shapeB_in {xs : List Int} (h : shapeB xs = true) : xs.length ≤ 4 ∧ (∀ e ∈ xs, 0 ≤ e ∧ e ≤ 60) ∧ 0 ≤ countL xs ∧ countL xs ≤ 60 ∧ (0 < countL xs → ∀ e ∈ xs, 1 ≤ e) := by
  simp only [shapeB, inB, Bool.and_eq_true, decide_eq_true_eq, List.all_eq_true] at h
  have := countL_zero_or h.1.1 h.1.2
  exact ⟨h.1.1, h.1.2, this.1, h.2, this.2.2.1⟩

def viewB (base : Int) (shape strides : List Int) : Bool :=
  shapeB shape && decide (strides.length = shape.length) && inB 0 60 base && strides.all (inB (-60) 60) && (offsL base shape strides).all (inB 0 59)

theorem any_out (l : List Int) : (!l.any outB) = l.all (inB 0 59) := by
  rw [List.not_any_eq_all_not]
  congr 1; funext x; unfold outB inB; rw [Bool.eq_iff_iff]; simp; omega
theorem viewB_end {base : Int} {shape strides : List Int} (h1 : (shapeB shape && decide (strides.length = shape.length) && inB 0 60 base) = true) (h2 : strides.all (inB (-60) 60) = true) :
    viewB base shape strides = !(offsL base shape strides).any outB := by
  unfold viewB; rw [h1, h2, any_out]; simp
set_option maxHeartbeats 800000 in
theorem isView_c (base : Int) (sh st : Value) (shape strides : List Int) (w : World) (lo lo' : Nat) (hsh : Ints w lo sh shape) (hst : Ints w lo' st strides) :
    Calls Try.prog 44 #[.agg #[.int .i64 base, sh, st]] w fun e w' => e = .returned (.bool (viewB base shape strides)) ∧ Ext w w' := by
  have hst0 := Lib.hid hst
  have hsh0 := Lib.hid hsh
  obtain ⟨a, cap, rfl, hlc, hcm, ⟨hlen, _⟩, hc⟩ := hst
  obtain ⟨a2, cap2, rfl, hlc2, hcm2, ⟨hlen2, _⟩, hc2⟩ := hsh
  by_cases hb : (shapeB shape && decide (strides.length = shape.length) && inB 0 60 base) = true
  case neg =>
    have hv := Lib.hid (show viewB base shape strides = false by unfold viewB; simp only [Bool.not_eq_true] at hb; simp only [hb, Bool.false_and])
    have hb := Lib.hid (show (shapeB shape && decide (strides.length = shape.length) && inB 0 60 base) = false by simpa using hb)
    go_enter Try.func44, Try.ntmps44
    go_wp2_with (go_at_call 62; refine (isShape_c shape _ _ lo (hsh0.out.ext ((Ext.refl _).alloc _))).mono ?_; rintro e w' ⟨rfl, rfl⟩)
    all_goals first
      | (go_ret; exact ⟨by rw [hv.out]; rfl, (Ext.refl _).alloc _⟩)
      | (exfalso; have := hb.out; simp [inB, *] at this; omega)
  have hbs := hb
  simp only [Bool.and_eq_true, decide_eq_true_eq, inB] at hbs
  obtain ⟨⟨h1, h2⟩, h3, h4⟩ := hbs
  have h1' := Lib.hid h1
  have hb := Lib.hid hb
  rw [h2] at hst0
  go_enter Try.func44, Try.ntmps44
  go_wp2_with (go_at_call 62; refine (isShape_c shape _ _ lo (hsh0.out.ext ((Ext.refl _).alloc _))).mono ?_; rintro e w' ⟨rfl, rfl⟩)
  clear h1
  go_loop [31] (fun i => ∃ k : Nat, k ≤ strides.length ∧ i = .int .i64 k ∧ (strides.take k).all (inB (-60) 60) = true) (fun i => strides.length - (intOf i).toNat)
  case atStart => exact ⟨0, Nat.zero_le _, rfl, rfl⟩
  case round =>
    obtain ⟨k, hk, rfl, hall0⟩ := hrel
    have hall := Lib.hid hall0
    clear hall0
    by_cases hlt : k < strides.length
    · obtain ⟨b, off, rfl, _, hcell, _⟩ := hc k hlt
      have hbl := qB hcell
      have hlt2 : k < shape.length := by omega
      clear hc hc2
      go_wp2_with fail
      all_goals first
        | (go_ret; exact ⟨by simp [viewB, all_no (inB (-60) 60) strides k hlt (by unfold inB; simp; omega)], (Ext.refl _).alloc _⟩)
        | (go_round; (case rel => exact ⟨k+1, by omega, by go_num, all_take _ strides k hlt hall.out (by unfold inB; simp; omega)⟩); (case measure => simp [intOf]; omega))
    · have hk' := Lib.hid (show k = strides.length by omega)
      have hin := shapeB_in h1'.out
      clear hc hc2
      go_wp2_with (first
        | (go_at_call 82; refine (offsetsOf_c base _ _ shape strides _ lo lo' (hsh0.out.ext ((Ext.refl _).alloc _)) (hst0.out.ext ((Ext.refl _).alloc _)) (by omega) hin.2.2.2.2 (by omega)).mono ?_; rintro e w1 ⟨v1, rfl, hi1, _, hx1⟩)
        | (go_at_call 87; refine (containsFunc_c _ _ outB _ _ _ _ hi1 (isViewF_c _)).mono ?_; rintro e w2 ⟨rfl, rfl⟩))
      go_ret
      exact ⟨by rw [viewB_end hb.out (by have := hall.out; rw [hk'.out] at this; simpa using this)]; rfl, (Ext.trans ((Ext.refl _).alloc _) hx1)⟩
theorem viewB_in {base : Int} {shape strides : List Int} (h : viewB base shape strides = true) :
    shapeB shape = true ∧ strides.length = shape.length ∧ (0 ≤ base ∧ base ≤ 60) ∧ (∀ s ∈ strides, -60 ≤ s ∧ s ≤ 60) ∧ (∀ x ∈ offsL base shape strides, 0 ≤ x ∧ x ≤ 59) := by
  simp only [viewB, inB, Bool.and_eq_true, decide_eq_true_eq, List.all_eq_true] at h
  exact ⟨h.1.1.1.1, h.1.1.1.2, h.1.1.2, h.1.2, h.2⟩

end Go.Proofs.Ytpgkhjmboiepcaa

/- Walks of the reference's shapes and views. -/
namespace Go.Proofs.Ytpgkhjmboiepcaa
open Go.RowKit
set_option linter.unusedVariables false
set_option maxRecDepth 100000

set_option maxHeartbeats 400000 in
theorem inRange_c (n lo hi : Int) (w : World) :
    Calls Try.prog 57 #[.int .i64 n, .int .i64 lo, .int .i64 hi] w fun e w' => e = .returned (.bool (inB lo hi n)) ∧ w = w' := by
  by_cases h : lo ≤ n
  · go_enter Try.func57, Try.ntmps57
    go_wp2_with fail
    go_ret
    exact ⟨by simp [inB, h], rfl⟩
  · have h' : n < lo := by omega
    go_enter Try.func57, Try.ntmps57
    go_wp2_with fail
    go_ret
    exact ⟨by simp [inB]; intro; omega, rfl⟩

set_option maxHeartbeats 400000 in
theorem allIn_c (xs : List Int) (v : Value) (l h : Int) (w : World) (lo : Nat) (hv : Ints w lo v xs) :
    Calls Try.prog 73 #[v, .int .i64 l, .int .i64 h] w fun e w' => e = .returned (.bool (xs.all (inB l h))) ∧ w = w' := by
  obtain ⟨a, cap, rfl, hlc, hcm, ⟨hlen, _⟩, hc⟩ := hv
  go_enter Try.func73, Try.ntmps73
  go_wp2_with fail
  go_loop [7] (fun i => ∃ k : Nat, k ≤ xs.length ∧ i = .int .i64 k ∧ (xs.take k).all (inB l h) = true) (fun i => xs.length - (intOf i).toNat)
  case atStart => exact ⟨0, Nat.zero_le _, rfl, rfl⟩
  case round =>
    obtain ⟨k, hk, rfl, hall0⟩ := hrel
    have hall := Lib.hid hall0
    clear hall0
    by_cases hlt : k < xs.length
    · obtain ⟨b, off, rfl, _, hcell, _⟩ := hc k hlt
      clear hc
      cases hin : inB l h xs[k]
      all_goals
        go_wp2_with (go_at_call 57; refine (inRange_c _ _ _ _).mono ?_; rintro e w' ⟨rfl, rfl⟩)
      · go_ret
        exact ⟨by rw [all_no _ xs k hlt hin]; rfl, rfl⟩
      · go_round
        case rel => exact ⟨k+1, by omega, by go_num, all_take _ xs k hlt hall.out hin⟩
        case measure => simp [intOf]; omega
    · obtain rfl : k = xs.length := by omega
      go_wp2_with fail
      go_ret
      exact ⟨by have := hall.out; rw [List.take_length] at this; rw [this]; rfl, rfl⟩

set_option maxHeartbeats 400000 in
theorem count_c (xs : List Int) (v : Value) (w : World) (lo : Nat) (hv : Ints w lo v xs) :
    Calls Try.prog 111 #[v] w fun e w' => e = .returned (.int .i64 (countL xs)) ∧ w = w' := by
  obtain ⟨a, cap, rfl, hlc, hcm, ⟨hlen, _⟩, hc⟩ := hv
  go_enter Try.func111, Try.ntmps111
  go_wp2
  go_loop [3, 4] (fun n i => ∃ k : Nat, k ≤ xs.length ∧ i = .int .i64 k ∧ n = .int .i64 (countL (xs.take k))) (fun _ i => xs.length - (intOf i).toNat)
  case atStart => exact ⟨0, Nat.zero_le _, rfl, rfl⟩
  case round =>
    obtain ⟨k, hk, rfl, rfl⟩ := hrel
    by_cases hlt : k < xs.length
    · obtain ⟨b, off, rfl, _, hcell, _⟩ := hc k hlt
      have hs := Lib.hid (countL_take xs k hlt)
      clear hc
      go_wp2
      go_round
      case rel => exact ⟨k+1, by omega, by go_num, by rw [hs.out]; simp [hlt]⟩
      case measure => simp [intOf]; omega
    · obtain rfl : k = xs.length := by omega
      go_wp2
      go_ret
      exact ⟨by simp, rfl⟩

set_option maxHeartbeats 400000 in
theorem unrank_c (xs : List Int) (v : Value) (k : Int) (w : World) (lo : Nat) (hv : Ints w lo v xs) (hk : 0 ≤ k) (hk2 : k ≤ 1000000) (hp : ∀ e ∈ xs, 1 ≤ e) :
    Calls Try.prog 113 #[v, .int .i64 k] w (PInts w (unrL xs k).1) := by
  obtain ⟨a, cap, rfl, hlc, hcm, ⟨hlen, _⟩, hc⟩ := hv
  obtain ⟨i0, hi, hz0, hz1, hz2⟩ := info_parts infoInt
  go_enter Try.func113, Try.ntmps113
  go_wp2_with (at_make; refine wpList_make_full _ rfl _ _ 23 rfl w.heap.size 3 i0 (.int .i64 0) 1 Try.underlying23 hi hz0 hz1 .i64 .i64 _ _ xs.length rfl rfl rfl rfl (by rw [hz2]; omega) (by unfold maxLen; omega) (Nat.le_refl _) ?_)
  intro w1 hown hgr
  have hx : Ext w w1 := (Ext.refl w).grown hgr (by simp)
  rw [made_ints] at hown
  clear hgr
  go_wp2
  go_loopw [1, 6] (fun kk i wr => ∃ j : Nat, j ≤ xs.length ∧ i = .int .i64 ((j : Int) - 1) ∧ kk = .int .i64 (unrL (xs.drop j) k).2 ∧
      wr.ownsRow w.heap.size 3 1 (.slice (some ⟨w.heap.size, 0, none⟩) xs.length xs.length) xs.length ((List.replicate j 0 ++ (unrL (xs.drop j) k).1).map (Value.int .i64)) ∧ Ext w wr)
    (fun _ i _ => (intOf i + 1).toNat)
  case atStart => exact ⟨xs.length, Nat.le_refl _, by go_num, by simp [unrL], by simpa [unrL] using hown, hx⟩
  case round =>
    obtain ⟨j, hj, rfl, rfl, ho, hxr⟩ := hrel
    cases j with
    | zero =>
      go_wp2
      go_ret
      refine PInts.mk (base := w.heap.size) ?_ (Nat.le_refl _) (by rw [unrL_len]; omega) hxr
      unfold OwnI; rw [unrL_len]; simpa using ho
    | succ m =>
      rw [show ((m + 1 : Nat) : Int) - 1 = (m : Int) by omega]
      obtain ⟨b, off, rfl, _, hcell, _⟩ := hc m (by omega)
      have hcell' := hxr.cell hcell
      have hbl := qB hcell
      obtain ⟨hoc, hof⟩ := own_cell ho m (by omega)
      have h1 : 1 ≤ xs[m]?.getD 0 := by
        rw [List.getElem?_eq_getElem (by omega)]; exact hp _ (List.getElem_mem ..)
      have h0 : 0 ≤ (unrL (xs.drop (m+1)) k).2 := unrL_pos _ _ hk (fun e he => hp e (List.mem_of_mem_drop he))
      have h0' : (unrL (xs.drop (m+1)) k).2 ≤ 1000000 := by
        have := unrL_le (xs.drop (m+1)) k hk (fun e he => hp e (List.mem_of_mem_drop he)); omega
      have hs := Lib.hid (unrL_drop xs k m (by omega))
      have hn := Lib.hid (own_set ho m ((unrL (xs.drop (m+1)) k).2 % xs.getD m 0) (by omega))
      clear hc ho
      go_wp2
      go_roundw
      case rel =>
        refine ⟨m, by omega, rfl, by rw [hs.out]; simp [unStep], ?_, hxr.setCell (Nat.le_refl _) _⟩
        have := hn.out
        rw [hs.out]
        rw [set_rep] at this
        simpa [unStep] using this
      case measure => simp [intOf]

set_option maxHeartbeats 400000 in
theorem offset_c (base : Int) (shv st ix : Value) (sts ixs : List Int) (w : World) (lo lo' : Nat) (hst : Ints w lo st sts) (hix : Ints w lo' ix ixs) (hl : ixs.length ≤ sts.length) :
    Calls Try.prog 112 #[.agg #[.int .i64 base, shv, st], ix] w fun e w' => e = .returned (.int .i64 (dotL base ixs sts)) ∧ Ext w w' := by
  obtain ⟨a, cap, rfl, hlc, hcm, ⟨hlen, _⟩, hc⟩ := hst
  obtain ⟨a2, cap2, rfl, hlc2, hcm2, ⟨hlen2, _⟩, hc2⟩ := hix
  go_enter Try.func112, Try.ntmps112
  go_wp2
  go_loopw [5, 6] (fun n i wr => ∃ k m : Nat, k ≤ ixs.length ∧ i = .int .i64 k ∧ n = .int .i64 (dotL base (ixs.take k) sts) ∧ wr = (w.alloc (.cells #[.int .i64 base, shv, .slice a sts.length cap] 25)).drewN m) (fun _ i _ => ixs.length - (intOf i).toNat)
  case atStart => exact ⟨0, 0, Nat.zero_le _, rfl, rfl, rfl⟩
  case round =>
    obtain ⟨k, m, hk, rfl, rfl, rfl⟩ := hrel
    by_cases hlt : k < ixs.length
    · obtain ⟨b, off, rfl, _, hcell, _⟩ := hc k (by omega)
      obtain ⟨b2, off2, rfl, _, hcell2, _⟩ := hc2 k hlt
      have hbl := qB hcell
      have hbl2 := qB hcell2
      have hs := Lib.hid (dotL_take base ixs sts k hlt (by omega))
      have hk2 : k < sts.length := by omega
      have hk3 : (k : Int) < sts.length := by omega
      have hk4 : (k : Int) < ixs.length := by omega
      clear hc hc2
      go_wp2_with fail
      go_quiet (fail)
      go_wp2_with fail
      go_roundw
      case rel => exact ⟨k+1, _, by omega, by go_num, by rw [hs.out]; simp [hlt, hk2], rfl⟩
      case measure => simp [intOf]; omega
    · obtain rfl : k = ixs.length := by omega
      go_wp2
      go_ret
      exact ⟨by simp, ((Ext.refl _).alloc _).drewN _⟩

set_option maxHeartbeats 400000 in
theorem offsets_c (base : Int) (sh st : Value) (shape strides : List Int) (w : World) (lo lo' : Nat) (hsh : Ints w lo sh shape) (hst : Ints w lo' st strides)
    (hl : shape.length ≤ strides.length) (hp : 0 < countL shape → ∀ e ∈ shape, 1 ≤ e) (hcnt : countL shape ≤ 1000000) :
    Calls Try.prog 86 #[.agg #[.int .i64 base, sh, st]] w (PInts w (offsL base shape strides)) := by
  obtain ⟨i0, hi, hz0, hz1, hz2⟩ := info_parts infoInt
  go_enter Try.func86, Try.ntmps86
  go_wp2_with fail
  go_loopw [3, 4] (fun v i wr => ∃ k : Nat, k ≤ (offsL base shape strides).length ∧ i = .int .i64 k ∧ OwnI wr (w.heap.size + 1) v ((offsL base shape strides).take k) ∧
      wr.cell? ⟨w.heap.size, 0, none⟩ = some (.int .i64 base) ∧ wr.cell? ⟨w.heap.size, 1, none⟩ = some sh ∧ wr.cell? ⟨w.heap.size, 2, none⟩ = some st ∧ Ext w wr ∧ w.heap.size < wr.heap.size)
    (fun _ i _ => (offsL base shape strides).length - (intOf i).toNat)
  case atStart =>
    refine ⟨0, Nat.zero_le _, rfl, ?_, by simp, by simp, by simp, (Ext.refl _).alloc _ |>.alloc _, by simp; omega⟩
    simpa using OwnI.lit0 (w.alloc (.cells #[.int .i64 base, sh, st] 25)) (w.heap.size + 1) (by simp)
  case round =>
    obtain ⟨k, hk, rfl, ho, c0, c1, c2, hx, hz⟩ := hrel
    have hlen : (offsL base shape strides).length = (countL shape).toNat := by simp [offsL]
    by_cases hlt : k < (offsL base shape strides).length
    · have hkc : (k : Int) < countL shape := by omega
      go_wp2_with (go_at_call 111; refine (count_c shape _ _ lo (hsh.ext hx)).mono ?_; rintro e w' ⟨rfl, rfl⟩)
      have hz2 : w.heap.size + 1 ≤ wr.heap.size := hz
      go_region_law (first
        | (go_simp; go_at_call 113; refine (unrank_c shape _ (k : Int) _ lo (hsh.ext (by exact hx.drew)) (by omega) (by omega) (hp (by omega))).mono ?_; rintro e w1 ⟨v1, rfl, hi1, _, hx1⟩; have hr1 : ∀ b o, b < wr.heap.size → w1.cell? ⟨b, o, none⟩ = wr.cell? ⟨b, o, none⟩ := hx1.rule)
        | (go_simp; go_at_call 112; refine (offset_c base _ _ _ strides _ _ lo' _ (hst.ext (by exact hx.trans (Ext.trans ((Ext.refl _).drew) hx1))) hi1 (by rw [unrL_len]; exact hl)).mono ?_; rintro e w2 ⟨rfl, hx2'⟩; have hs2 := hx2'.size; have hs1 := hx1.size; have hx2 : Ext wr w2 := (Ext.trans ((Ext.refl _).drew) hx1).trans hx2'; have hr2 : ∀ b o, b < wr.heap.size → w2.cell? ⟨b, o, none⟩ = wr.cell? ⟨b, o, none⟩ := hx2.rule)
        | (refine step_app rfl (.tmp 13) (.tmp 20) rfl rfl rfl ((ho.ext hx2).ext ((Ext.refl _).alloc _)) (Ints.one _ 0 _ (Nat.zero_le _)) (by simp; omega) (by simp at hs1; simp; omega) ?_; intro v' w3 ho3 hg3 hb3 _))
      all_goals
        have hxa := (hx.trans hx2).alloc (.cells #[.int .i64 (dotL base (unrL shape k).1 strides)] 3)
        have d0 := below_cell hb3 (b := w.heap.size) (by omega) (((Ext.alloc hx2 _).cell c0))
        have d1 := below_cell hb3 (b := w.heap.size) (by omega) (((Ext.alloc hx2 _).cell c1))
        have d2 := below_cell hb3 (b := w.heap.size) (by omega) (((Ext.alloc hx2 _).cell c2))
        have hz3 := hb3.size
        simp at hz3 hs1
        have ho4 : OwnI w3 (w.heap.size + 1) v' ((offsL base shape strides).take (k+1)) := by
          rw [List.take_succ_eq_append_getElem hlt]
          simpa [offsL] using ho3
        have hx3 := hxa.below hb3 (by omega)
        clear ho3 hg3 hb3 hxa hr1 hr2 hx2 hx2' hx1 ho
        go_wp2_with fail
        go_roundw
        case rel => exact ⟨k+1, by omega, by go_num, ho4, d0, d1, d2, hx3, by omega⟩
        case measure => simp [intOf]; omega
    · have hkk : k = (offsL base shape strides).length := by omega
      have hge : ¬ (k : Int) < countL shape := by omega
      rw [hkk, List.take_length] at ho
      have hI := Lib.hid ho
      clear ho hkk
      go_wp2_with (go_at_call 111; refine (count_c shape _ _ lo (hsh.ext hx)).mono ?_; rintro e w' ⟨rfl, rfl⟩)
      go_ret
      exact PInts.mk hI.out (Nat.le_succ _) (by omega) hx

set_option maxHeartbeats 400000 in
theorem validShape_c (xs : List Int) (v : Value) (w : World) (lo : Nat) (hv : Ints w lo v xs) :
    Calls Try.prog 110 #[v] w fun e w' => e = .returned (.bool (shapeB xs)) ∧ w = w' := by
  have hv0 := Lib.hid hv
  obtain ⟨a, cap, rfl, hlc, hcm, ⟨hlen, _⟩, hc⟩ := hv
  by_cases h4 : xs.length ≤ 4
  · have h4' : (xs.length : Int) ≤ 4 := by omega
    cases hall : xs.all (inB 0 60)
    all_goals
      go_enter Try.func110, Try.ntmps110
      go_wp2_with (first
        | (go_at_call 73; refine (allIn_c xs _ _ _ _ lo hv0.out).mono ?_; rintro e w' ⟨rfl, rfl⟩)
        | (go_at_call 111; refine (count_c xs _ _ lo hv0.out).mono ?_; rintro e w' ⟨rfl, rfl⟩))
      go_ret
      exact ⟨by simp [shapeB, h4, hall], rfl⟩
  · have h4' : ¬ (xs.length : Int) ≤ 4 := by omega
    go_enter Try.func110, Try.ntmps110
    go_wp2_with fail
    go_ret
    exact ⟨by simp [shapeB, h4], rfl⟩

end Go.Proofs.Ytpgkhjmboiepcaa

/- Walks of the reference's views: valid views. -/
namespace Go.Proofs.Ytpgkhjmboiepcaa
open Go.RowKit
set_option linter.unusedVariables false
set_option maxRecDepth 100000

theorem offsL_zero {base : Int} {shape strides : List Int} (h : countL shape = 0) : offsL base shape strides = [] := by simp [offsL, h]

set_option maxHeartbeats 1000000 in
theorem validView_c (base : Int) (sh st : Value) (shape strides : List Int) (w : World) (lo lo' : Nat) (hsh : Ints w lo sh shape) (hst : Ints w lo' st strides) :
    Calls Try.prog 84 #[.agg #[.int .i64 base, sh, st]] w fun e w' => e = .returned (.bool (viewB base shape strides)) ∧ Ext w w' := by
  have hst0 := Lib.hid hst
  have hsh0 := Lib.hid hsh
  obtain ⟨a, cap, rfl, hlc, hcm, ⟨hlen, _⟩, hc⟩ := hst
  obtain ⟨a2, cap2, rfl, hlc2, hcm2, ⟨hlen2, _⟩, hc2⟩ := hsh
  clear hc hc2
  cases h1 : shapeB shape
  case false =>
    have hv := Lib.hid (show viewB base shape strides = false by simp [viewB, h1])
    go_enter Try.func84, Try.ntmps84
    go_wp2_with (go_at_call 110; refine (validShape_c shape _ _ lo (hsh0.out.ext ((Ext.refl _).alloc _))).mono ?_; rintro e w' ⟨rfl, rfl⟩)
    go_ret
    exact ⟨by rw [hv.out]; rfl, (Ext.refl _).alloc _⟩
  have hin := shapeB_in h1
  by_cases h2 : strides.length = shape.length
  case neg =>
    have hv := Lib.hid (show viewB base shape strides = false by simp [viewB, h2])
    have h2' : ((strides.length : Int) == (shape.length : Int)) = false := by simp; omega
    go_enter Try.func84, Try.ntmps84
    go_wp2_with (go_at_call 110; refine (validShape_c shape _ _ lo (hsh0.out.ext ((Ext.refl _).alloc _))).mono ?_; rintro e w' ⟨rfl, rfl⟩)
    go_ret
    exact ⟨by rw [hv.out]; rfl, (Ext.refl _).alloc _⟩
  rw [h2] at hst0
  cases h3 : strides.all (inB (-60) 60)
  case false =>
    have hv := Lib.hid (show viewB base shape strides = false by simp [viewB, h3])
    go_enter Try.func84, Try.ntmps84
    go_wp2_with (first
      | (go_at_call 110; refine (validShape_c shape _ _ lo (hsh0.out.ext ((Ext.refl _).alloc _))).mono ?_; rintro e w' ⟨rfl, rfl⟩)
      | (go_at_call 73; refine (allIn_c strides _ _ _ _ lo' (hst0.out.ext ((Ext.refl _).alloc _))).mono ?_; rintro e w' ⟨rfl, rfl⟩))
    go_ret
    exact ⟨by rw [hv.out]; rfl, (Ext.refl _).alloc _⟩
  cases h4 : inB 0 60 base
  case false =>
    have hv := Lib.hid (show viewB base shape strides = false by simp [viewB, h4])
    go_enter Try.func84, Try.ntmps84
    go_wp2_with (first
      | (go_at_call 110; refine (validShape_c shape _ _ lo (hsh0.out.ext ((Ext.refl _).alloc _))).mono ?_; rintro e w' ⟨rfl, rfl⟩)
      | (go_at_call 73; refine (allIn_c strides _ _ _ _ lo' (hst0.out.ext ((Ext.refl _).alloc _))).mono ?_; rintro e w' ⟨rfl, rfl⟩)
      | (go_at_call 57; refine (inRange_c _ _ _ _).mono ?_; rintro e w' ⟨rfl, rfl⟩))
    go_ret
    exact ⟨by rw [hv.out]; rfl, (Ext.refl _).alloc _⟩
  by_cases h5 : countL shape = 0
  case pos =>
    have hv := Lib.hid (show viewB base shape strides = true by simp [viewB, h1, h2, h3, h4, offsL_zero h5])
    clear hin
    go_enter Try.func84, Try.ntmps84
    go_wp2_with (first
      | (go_at_call 110; refine (validShape_c shape _ _ lo (hsh0.out.ext ((Ext.refl _).alloc _))).mono ?_; rintro e w' ⟨rfl, rfl⟩)
      | (go_at_call 73; refine (allIn_c strides _ _ _ _ lo' (hst0.out.ext ((Ext.refl _).alloc _))).mono ?_; rintro e w' ⟨rfl, rfl⟩)
      | (go_at_call 57; refine (inRange_c _ _ _ _).mono ?_; rintro e w' ⟨rfl, rfl⟩)
      | (go_at_call 111; refine (count_c shape _ _ lo (hsh0.out.ext ((Ext.refl _).alloc _))).mono ?_; rintro e w' ⟨rfl, rfl⟩))
    go_ret
    exact ⟨by rw [hv.out]; rfl, (Ext.refl _).alloc _⟩
  have hin' := Lib.hid hin
  clear hin
  have h5' : (countL shape == 0) = false := by simpa using h5
  clear h5
  cases h6 : (offsL base shape strides).all (inB 0 59)
  all_goals
    have hv := Lib.hid (show viewB base shape strides = (offsL base shape strides).all (inB 0 59) by simp [viewB, h1, h2, h3, h4])
    rw [h6] at hv
    go_enter Try.func84, Try.ntmps84
    go_wp2_with (first
      | (go_at_call 110; refine (validShape_c shape _ _ lo (hsh0.out.ext ((Ext.refl _).alloc _))).mono ?_; rintro e w' ⟨rfl, rfl⟩)
      | (go_at_call_of 73 cap; refine (allIn_c strides _ _ _ _ lo' (hst0.out.ext ((Ext.refl _).alloc _))).mono ?_; rintro e w' ⟨rfl, rfl⟩)
      | (go_at_call 57; refine (inRange_c _ _ _ _).mono ?_; rintro e w' ⟨rfl, rfl⟩)
      | (go_at_call 111; refine (count_c shape _ _ lo (hsh0.out.ext ((Ext.refl _).alloc _))).mono ?_; rintro e w' ⟨rfl, rfl⟩)
      | (go_at_call 86; refine (offsets_c base _ _ shape strides _ lo lo' (hsh0.out.ext ((Ext.refl _).alloc _)) (hst0.out.ext ((Ext.refl _).alloc _)) (by have := hin'.out; omega) hin'.out.2.2.2.2 (by have := hin'.out; omega)).mono ?_; rintro e w1 ⟨v1, rfl, hi1, _, hx1⟩)
      | (go_at_call 73; refine (allIn_c _ _ _ _ _ _ hi1).mono ?_; rintro e w' ⟨rfl, rfl⟩))
    go_ret
    exact ⟨by rw [hv.out]; rfl, Ext.trans ((Ext.refl _).alloc _) hx1⟩

end Go.Proofs.Ytpgkhjmboiepcaa

/- The contracts of library functions, laid at this translation: no condition. -/
namespace Go.Proofs
open Go.Shelf
def Try.lays107_ren : Go.Shelf.Ren := ⟨fun | 107 => 45 | 108 => 89 | n => n, fun | 28 => 23 | 3 => 3 | 4 => 4 | 0 => 0 | n => n, fun | n => n⟩
theorem Try.lays107 : Go.Proofs.Lays.n107 Try.prog Try.lays107_ren := {
  mixed := by kernel_rfl
  f107 := Try.func45.trans (congrArg some (by kernel_rfl))
  f108 := Try.func89.trans (congrArg some (by kernel_rfl))
  t0 := Try.underlying0
  a0 := Try.isAgg0
  z0 := Try.sizeOf0
  v0 := Try.zeroValue0
  t3 := Try.underlying3
  a3 := Try.isAgg3
  z3 := Try.sizeOf3
  v3 := Try.zeroValue3
  t4 := Try.underlying4
  a4 := Try.isAgg4
  z4 := Try.sizeOf4
  v4 := Try.zeroValue4
  t28 := Try.underlying23
  a28 := Try.isAgg23
  z28 := Try.sizeOf23
  v28 := Try.zeroValue23 }
open Go.Lib in
theorem Try.slices_Contains_int (b off n c : Nat) (zs : List Int) (x : Int) (w : World) (hz : n ≤ zs.length) (hbig : n ≤ 9223372036854775807) (hc : ∀ j, j < zs.length → w.cell? ⟨b, off + j, none⟩ = some (.int .i64 (zs.getD j 0))) :
    Calls Try.prog 45 #[.slice (some ⟨b, off, none⟩) n c, .int .i64 x] w fun e w' => e = .returned (.bool ((zs.take n).contains x)) ∧ w' = w := Any.slices_Contains_int Try.lays107 b off n c zs x w hz hbig hc
open Go.Lib in
theorem Try.slices_Contains_int_empty (a : Option Addr) (c : Nat) (x : Int) (w : World) :
    Calls Try.prog 45 #[.slice a 0 c, .int .i64 x] w fun e w' => e = .returned (.bool false) ∧ w' = w := Any.slices_Contains_int_empty Try.lays107 a c x w
end Go.Proofs

/- Plain laws on lists of ints: ascending lists, sorted and compacted lists, lists of different numbers. -/
namespace Go.Proofs.Ytpgkhjmboiepcaa

/-- 0, 1, .. -/
def upL (n : Nat) : List Int := (List.range n).map fun i : Nat => (i : Int)
theorem upL_succ (n : Nat) : upL (n+1) = upL n ++ [(n : Int)] := by simp [upL, List.range_succ]
theorem upL_mem (n : Nat) (x : Int) : x ∈ upL n ↔ 0 ≤ x ∧ x < n := by
  simp only [upL, List.mem_map, List.mem_range]
  constructor
  · rintro ⟨i, hi, rfl⟩; omega
  · rintro ⟨h0, h1⟩; exact ⟨x.toNat, by omega, by omega⟩
end Go.Proofs.Ytpgkhjmboiepcaa

/- The library's sort, compact, contains, index and equal on lists of ints, in the words of these proofs. -/
namespace Go.Proofs.Ytpgkhjmboiepcaa
open Go.RowKit Go.Sort
set_option linter.unusedVariables false
set_option maxRecDepth 100000


def hasB (xs : List Int) (x : Int) : Bool := xs.contains x
theorem contains_c (xs : List Int) (v : Value) (x : Int) (w : World) (lo : Nat) (h : Ints w lo v xs) :
    Calls Try.prog 45 #[v, .int .i64 x] w fun e w' => e = .returned (.bool (hasB xs x)) ∧ w = w' := by
  obtain ⟨a, cap, rfl, h1, h2, ⟨h3, h3'⟩, h4⟩ := h
  by_cases he : xs = []
  · subst he
    refine (Try.slices_Contains_int_empty a cap x w).mono ?_
    rintro e w' ⟨rfl, rfl⟩
    exact ⟨rfl, rfl⟩
  · have hpos : 0 < xs.length := by cases xs <;> simp_all
    obtain ⟨b, off, rfl, _⟩ := h4 0 hpos
    refine (Try.slices_Contains_int b off xs.length cap xs x w (Nat.le_refl _) (by omega) (fun j hj => by obtain ⟨b', off', he, _, hc, _⟩ := h4 j hj; cases he; exact hc)).mono ?_
    rintro e w' ⟨rfl, rfl⟩
    exact ⟨by rw [List.take_length]; rfl, rfl⟩

end Go.Proofs.Ytpgkhjmboiepcaa

/- Walks: the cells of a view, told once; what two views have; places in a list; lists of different numbers. -/
namespace Go.Proofs.Ytpgkhjmboiepcaa
open Go.RowKit
set_option linter.unusedVariables false
set_option maxRecDepth 100000

def placeL (xs : List Int) (n : Int) : Int := findI (fun x => x == n) xs

set_option maxHeartbeats 400000 in
theorem placeIn_c (xs : List Int) (v : Value) (n : Int) (w : World) (lo : Nat) (hv : Ints w lo v xs) :
    Calls Try.prog 104 #[v, .int .i64 n] w fun e w' => e = .returned (.int .i64 (placeL xs n)) ∧ w = w' := by
  obtain ⟨a, cap, rfl, hlc, hcm, ⟨hlen, _⟩, hc⟩ := hv
  go_enter Try.func104, Try.ntmps104
  go_wp2_with fail
  go_loop [5] (fun i => ∃ k : Nat, k ≤ xs.length ∧ i = .int .i64 k ∧ (xs.take k).any (fun x => x == n) = false) (fun i => xs.length - (intOf i).toNat)
  case atStart => exact ⟨0, Nat.zero_le _, rfl, rfl⟩
  case round =>
    obtain ⟨k, hk, rfl, hall0⟩ := hrel
    have hall := Lib.hid hall0
    clear hall0
    by_cases hlt : k < xs.length
    · obtain ⟨b, off, rfl, _, hcell, _⟩ := hc k hlt
      clear hc
      cases hp : (xs[k] == n)
      · go_wp2_with fail
        go_round
        case rel => exact ⟨k+1, by omega, by go_num, any_take _ xs k hlt hall.out hp⟩
        case measure => simp [intOf]; omega
      · have hs := Lib.hid (findI_yes (fun x => x == n) xs k hlt hall.out hp)
        go_wp2_with fail
        go_ret
        exact ⟨by unfold placeL; rw [hs.out]; rfl, rfl⟩
    · obtain rfl : k = xs.length := by omega
      go_wp2_with fail
      go_ret
      exact ⟨by unfold placeL; rw [findI_no _ xs (by simpa using hall.out)]; rfl, rfl⟩

theorem placeL_ge (xs : List Int) (n : Int) : decide (0 ≤ placeL xs n) = xs.contains n := by
  unfold placeL; rw [findI_ge, List.contains_eq_any_beq]
  congr 1; funext x; rw [Bool.eq_iff_iff]; simp; exact eq_comm

set_option maxHeartbeats 400000 in
theorem different_c (xs : List Int) (v : Value) (w : World) (lo : Nat) (hv : Ints w lo v xs) :
    Calls Try.prog 159 #[v] w fun e w' => e = .returned (.bool (decide xs.Nodup)) ∧ Ext w w' := by
  have hv0 := Lib.hid hv
  obtain ⟨a, cap, rfl, hlc, hcm, ⟨hlen, _⟩, hc⟩ := hv
  unfold maxLen at hcm
  go_enter Try.func159, Try.ntmps159
  go_wp2_with fail
  go_loopw [3] (fun i wr => ∃ k : Nat, k ≤ xs.length ∧ i = .int .i64 k ∧ (xs.take k).Nodup ∧ Ext w wr) (fun i _ => xs.length - (intOf i).toNat)
  case atStart => exact ⟨0, Nat.zero_le _, rfl, by simp, Ext.refl _⟩
  case round =>
    obtain ⟨k, hk, rfl, hnd0, hx⟩ := hrel
    have hnd := Lib.hid hnd0
    clear hnd0
    by_cases hlt : k < xs.length
    · obtain ⟨b, off, rfl, _, hcell0, _⟩ := hc k hlt
      have hcell := hx.cell hcell0
      have hk4 : (k : Int) < xs.length := by omega
      have hk5 : (k : Int) ≤ cap := by omega
      have hp := placeL_ge (xs.take k) xs[k]
      have hgd : xs.getD k 0 = xs[k] := by simp [hlt]
      have hvt := Lib.hid ((hv0.out.ext hx).take k (by omega))
      clear hc hcell0
      cases h1 : (xs.take k).contains xs[k]
      · have hn : placeL (xs.take k) xs[k] < 0 := by rw [h1] at hp; simpa using hp
        have hnd2 := Lib.hid (show (xs.take (k+1)).Nodup by
          rw [List.take_succ_eq_append_getElem hlt, List.nodup_append]
          refine ⟨hnd.out, by simp, ?_⟩
          intro y hy z hz; simp at hz; subst hz
          intro he; subst he
          rw [List.contains_iff_mem.2 hy] at h1; cases h1)
        clear h1 hp
        rw [hgd] at hcell
        clear hgd
        go_wp2_with fail
        go_quiet ((go_at_call 104; exact quiet_left (placeIn_c (xs.take k) _ _ _ lo (hvt.out.ext (by exact (Ext.refl _).drewN _)))))
        go_wp2_with fail
        go_roundw
        case rel => exact ⟨k+1, by omega, by go_num, hnd2.out, hx.drewN _⟩
        case measure => simp [intOf]; omega
      · have hn : 0 ≤ placeL (xs.take k) xs[k] := by rw [h1] at hp; simpa using hp
        have hnd2 := Lib.hid (show ¬ xs.Nodup by
          intro hN
          have h2 : xs[k] ∈ xs.take k := List.contains_iff_mem.1 h1
          have h3 := hN
          rw [← List.take_append_drop k xs, List.nodup_append] at h3
          exact h3.2.2 _ h2 _ (by rw [List.drop_eq_getElem_cons hlt]; exact List.mem_cons_self ..) rfl)
        clear h1 hp
        rw [hgd] at hcell
        clear hgd
        go_wp2_with fail
        go_quiet ((go_at_call 104; exact quiet_left (placeIn_c (xs.take k) _ _ _ lo (hvt.out.ext (by exact (Ext.refl _).drewN _)))))
        go_wp2_with fail
        go_ret
        exact ⟨by rw [decide_eq_false hnd2.out]; rfl, hx.drewN _⟩
    · obtain rfl : k = xs.length := by omega
      go_wp2_with fail
      go_ret
      exact ⟨by have := hnd.out; rw [List.take_length] at this; rw [decide_eq_true this]; rfl, hx⟩

end Go.Proofs.Ytpgkhjmboiepcaa

/- Walks: one to one views, what two views have, and the program's exported questions about them. -/
namespace Go.Proofs.Ytpgkhjmboiepcaa
open Go.RowKit
set_option linter.unusedVariables false
set_option maxRecDepth 100000

theorem offs_len {base : Int} {shape strides : List Int} (h : viewB base shape strides = true) : (offsL base shape strides).length ≤ 60 := by
  obtain ⟨h1, _⟩ := viewB_in h
  have := shapeB_in h1
  simp [offsL]; omega
end Go.Proofs.Ytpgkhjmboiepcaa

/- Plain laws: the program's words on cells are the reference's. -/
namespace Go.Proofs.Ytpgkhjmboiepcaa
open Go.RowKit

end Go.Proofs.Ytpgkhjmboiepcaa

/- Plain laws on ranges of ints: the numbers of a range, normal forms, progressions. -/
namespace Go.Proofs.Ytpgkhjmboiepcaa
set_option linter.unusedVariables false

def cntL (a b s : Int) : Nat := if 0 < s then ((b - a + s - 1) / s).toNat else ((a - b + (-s) - 1) / (-s)).toNat
/-- the numbers of a range -/
def numL (a b s : Int) : List Int := (List.range (cntL a b s)).map fun k : Nat => a + k * s
theorem numL_len (a b s : Int) : (numL a b s).length = cntL a b s := by simp [numL]
theorem numL_get (a b s : Int) (k : Nat) (h : k < (numL a b s).length) : (numL a b s)[k] = a + k * s := by simp [numL]

theorem num_step {a b s : Int} (hs : s ≠ 0) (k : Nat) : (0 < s ∧ a + k * s < b ∨ s < 0 ∧ b < a + k * s) ↔ k < cntL a b s := by
  unfold cntL
  rcases Int.lt_or_le 0 s with h | h
  · rw [if_pos h]
    have h1 := Int.le_ediv_iff_mul_le (a := (k : Int) + 1) (b := b - a + s - 1) h
    have e : ((k : Int) + 1) * s = k * s + s := by rw [Int.add_mul, Int.one_mul]
    rw [e] at h1
    omega
  · have h' : 0 < -s := by omega
    rw [if_neg (by omega)]
    have h1 := Int.le_ediv_iff_mul_le (a := (k : Int) + 1) (b := a - b + (-s) - 1) h'
    have e : ((k : Int) + 1) * (-s) = -(k * s) + -s := by rw [Int.add_mul, Int.one_mul, Int.mul_neg]
    rw [e] at h1
    omega

theorem mem_numL_pos {a b s : Int} (hs : 0 < s) (x : Int) : x ∈ numL a b s ↔ a ≤ x ∧ x < b ∧ s ∣ (x - a) := by
  simp only [numL, List.mem_map, List.mem_range]
  constructor
  · rintro ⟨k, hk, rfl⟩
    have h := (num_step (a := a) (b := b) (s := s) (by omega) k).2 hk
    have h0 : 0 ≤ (k : Int) * s := Int.mul_nonneg (by omega) (by omega)
    refine ⟨by omega, by omega, ⟨k, ?_⟩⟩
    rw [Int.mul_comm s]; omega
  · rintro ⟨h1, h2, ⟨q, hq⟩⟩
    have hq0 : 0 ≤ q := by
      rcases Int.lt_or_le q 0 with h | h
      · have := Int.mul_neg_of_pos_of_neg hs h; omega
      · exact h
    have e : ((q.toNat : Nat) : Int) = q := by omega
    have e2 : q * s = s * q := Int.mul_comm _ _
    refine ⟨q.toNat, (num_step (by omega) _).1 (.inl ⟨hs, ?_⟩), ?_⟩ <;> rw [e, e2] <;> omega

theorem mem_numL_neg {a b s : Int} (hs : s < 0) (x : Int) : x ∈ numL a b s ↔ x ≤ a ∧ b < x ∧ s ∣ (x - a) := by
  simp only [numL, List.mem_map, List.mem_range]
  constructor
  · rintro ⟨k, hk, rfl⟩
    have h := (num_step (a := a) (b := b) (s := s) (by omega) k).2 hk
    have h0 : 0 ≤ (k : Int) * (-s) := Int.mul_nonneg (by omega) (by omega)
    rw [Int.mul_neg] at h0
    refine ⟨by omega, by omega, ⟨k, ?_⟩⟩
    rw [Int.mul_comm s]; omega
  · rintro ⟨h1, h2, ⟨q, hq⟩⟩
    have hq0 : 0 ≤ q := by
      rcases Int.lt_or_le q 0 with h | h
      · have := Int.mul_pos_of_neg_of_neg hs h; omega
      · exact h
    have e : ((q.toNat : Nat) : Int) = q := by omega
    have e2 : q * s = s * q := Int.mul_comm _ _
    refine ⟨q.toNat, (num_step (by omega) _).1 (.inr ⟨hs, ?_⟩), ?_⟩ <;> rw [e, e2] <;> omega

theorem numL_up {a b s : Int} (hs : 0 < s) : (numL a b s).Pairwise (· < ·) := by
  rw [numL, List.pairwise_map]
  refine List.pairwise_lt_range.imp ?_
  intro i j hij
  have := Int.mul_lt_mul_of_pos_right (show (i : Int) < j by omega) hs
  omega
theorem numL_down {a b s : Int} (hs : s < 0) : (numL a b s).Pairwise (fun x y => y < x) := by
  rw [numL, List.pairwise_map]
  refine List.pairwise_lt_range.imp ?_
  intro i j hij
  have := Int.mul_lt_mul_of_neg_right (show (i : Int) < j by omega) hs
  omega
theorem numL_nodup {a b s : Int} (hs : s ≠ 0) : (numL a b s).Nodup := by
  rcases Int.lt_or_le 0 s with h | h
  · exact (numL_up h).imp (fun h => by omega)
  · exact (numL_down (a := a) (b := b) (show s < 0 by omega)).imp (fun h => by omega)

theorem numL_in {a b s : Int} (hs : s ≠ 0) {x : Int} (h : x ∈ numL a b s) : (0 < s → a ≤ x ∧ x < b) ∧ (s < 0 → x ≤ a ∧ b < x) := by
  constructor
  · intro h1; have := (mem_numL_pos h1 x).1 h; exact ⟨this.1, this.2.1⟩
  · intro h1; have := (mem_numL_neg h1 x).1 h; exact ⟨this.1, this.2.1⟩

/-- a range in normal form -/
def normL : List Int → Int × Int × Int
  | [] => (0, 0, 1)
  | [x] => (x, x + 1, 1)
  | x :: y :: r => (x, if y - x < 0 then (y :: r).getLast (by simp) - 1 else (y :: r).getLast (by simp) + 1, y - x)

/-- sets of numbers that go on by their own differences -/
def ApS (S : Int → Prop) : Prop := ∀ x y z u v, S x → S y → S z → S u → S v → x ≤ z + (v - u) → z + (v - u) ≤ y → S (z + (v - u))
theorem ApS.and {S T : Int → Prop} (h : ApS S) (k : ApS T) : ApS fun x => S x ∧ T x :=
  fun x y z u v hx hy hz hu hv h1 h2 => ⟨h x y z u v hx.1 hy.1 hz.1 hu.1 hv.1 h1 h2, k x y z u v hx.2 hy.2 hz.2 hu.2 hv.2 h1 h2⟩
theorem ApS.congr {S T : Int → Prop} (h : ApS S) (k : ∀ x, S x ↔ T x) : ApS T :=
  fun x y z u v hx hy hz hu hv h1 h2 => (k _).1 (h x y z u v ((k _).2 hx) ((k _).2 hy) ((k _).2 hz) ((k _).2 hu) ((k _).2 hv) h1 h2)
end Go.Proofs.Ytpgkhjmboiepcaa

/- Plain laws: repeated cells, gaps between cells, later and earlier cells. -/
namespace Go.Proofs.Ytpgkhjmboiepcaa
open Go.RowKit
set_option linter.unusedVariables false

theorem getD_get {xs : List Int} {i : Nat} (h : i < xs.length) : xs.getD i 0 = xs[i] := by simp [h]

end Go.Proofs.Ytpgkhjmboiepcaa

/- Walks of the laws' own helpers on lists of ints and on views. -/
namespace Go.Proofs.Ytpgkhjmboiepcaa
open Go.RowKit
set_option linter.unusedVariables false
set_option maxRecDepth 100000

/-- a slice of ints that came in -/
def Raw (w : World) (v : Value) (xs : List Int) : Prop :=
  ∃ a cap, v = .slice a xs.length cap ∧ (a = none → cap = 0) ∧
    ∀ i, i < xs.length → ∃ b off, a = some ⟨b, off, none⟩ ∧ w.cell? ⟨b, off + i, none⟩ = some (.int .i64 (xs.getD i 0))

theorem Raw.ext {w w' : World} {v : Value} {xs : List Int} (h : Raw w v xs) (hx : Ext w w') : Raw w' v xs := by
  obtain ⟨a, cap, hv, h1, h2⟩ := h
  refine ⟨a, cap, hv, h1, fun i hi => ?_⟩
  obtain ⟨b, off, ha, hc⟩ := h2 i hi
  exact ⟨b, off, ha, hx.cell hc⟩

end Go.Proofs.Ytpgkhjmboiepcaa

/- Walks: memories, fits, copies of lists and views. -/
namespace Go.Proofs.Ytpgkhjmboiepcaa
open Go.RowKit
set_option linter.unusedVariables false
set_option maxRecDepth 100000

def memB (xs : List Int) : Bool := decide (xs.length ≤ 60) && xs.all (inB 0 255)

theorem isValue_c (x : Int) (w : World) : Calls Try.prog 107 #[.int .i64 x] w fun e w' => e = .returned (.bool (inB 0 255 x)) ∧ w = w' := by
  by_cases h : 0 ≤ x
  · go_enter Try.func107, Try.ntmps107
    go_wp2_with fail
    go_ret
    exact ⟨by simp [inB, h], rfl⟩
  · have h' : x < 0 := by omega
    go_enter Try.func107, Try.ntmps107
    go_wp2_with fail
    go_ret
    exact ⟨by simp [inB]; intro; omega, rfl⟩

theorem isMemoryF_c (w : World) : Asks 106 #[] w (fun x => !inB 0 255 x) := by
  refine ⟨⟨Try.f106, Try.func106, rfl, by decide +kernel⟩, fun x => ?_⟩
  rw [show (#[Value.int .i64 x] ++ #[]) = #[.int .i64 x] by simp]
  go_enter Try.func106, Try.ntmps106
  go_wp2_with (go_at_call 107; refine (isValue_c _ _).mono ?_; rintro e w' ⟨rfl, rfl⟩)
  go_ret
  exact ⟨rfl, rfl⟩

set_option maxHeartbeats 400000 in
theorem isMemory_c (xs : List Int) (v : Value) (w : World) (lo : Nat) (hv : Ints w lo v xs) :
    Calls Try.prog 79 #[v] w fun e w' => e = .returned (.bool (memB xs)) ∧ w = w' := by
  have hv0 := Lib.hid hv
  obtain ⟨a, cap, rfl, hlc, hcm, ⟨hlen, _⟩, hc⟩ := hv
  clear hc
  by_cases h4 : xs.length ≤ 60
  · have h4' : (xs.length : Int) ≤ 60 := by omega
    go_enter Try.func79, Try.ntmps79
    go_wp2_with (go_at_call 87; refine (containsFunc_c _ _ (fun x => !inB 0 255 x) _ _ _ _ hv0.out (isMemoryF_c _)).mono ?_; rintro e w' ⟨rfl, rfl⟩)
    go_ret
    exact ⟨by simp [memB, h4, List.any_eq_not_all_not], rfl⟩
  · have h4' : ¬ (xs.length : Int) ≤ 60 := by omega
    go_enter Try.func79, Try.ntmps79
    go_wp2_with fail
    go_ret
    exact ⟨by simp [memB, h4], rfl⟩

set_option maxHeartbeats 400000 in
theorem validMemory_c (xs : List Int) (v : Value) (w : World) (lo : Nat) (hv : Ints w lo v xs) :
    Calls Try.prog 83 #[v] w fun e w' => e = .returned (.bool (memB xs)) ∧ w = w' := by
  have hv0 := Lib.hid hv
  obtain ⟨a, cap, rfl, hlc, hcm, ⟨hlen, _⟩, hc⟩ := hv
  clear hc
  by_cases h4 : xs.length ≤ 60
  · have h4' : (xs.length : Int) ≤ 60 := by omega
    go_enter Try.func83, Try.ntmps83
    go_wp2_with (go_at_call 73; refine (allIn_c xs _ _ _ _ lo hv0.out).mono ?_; rintro e w' ⟨rfl, rfl⟩)
    go_ret
    exact ⟨by simp [memB, h4], rfl⟩
  · have h4' : ¬ (xs.length : Int) ≤ 60 := by omega
    go_enter Try.func83, Try.ntmps83
    go_wp2_with fail
    go_ret
    exact ⟨by simp [memB, h4], rfl⟩

/-- the view is one, and its cells are all less than n -/
def fitB (base : Int) (shape strides : List Int) (n : Int) : Bool := (offsL base shape strides).all (fun x => decide (x < n))

theorem fitsInF_c (w : World) (b : Nat) (n : Int) (hc : w.cell? ⟨b, 0, none⟩ = some (.int .i64 n)) : Asks 108 #[.pointer (some ⟨b, 0, none⟩)] w (fun x => decide (n ≤ x)) := by
  refine ⟨⟨Try.f108, Try.func108, rfl, by decide +kernel⟩, fun x => ?_⟩
  rw [show (#[Value.int .i64 x] ++ #[.pointer (some ⟨b, 0, none⟩)]) = #[.int .i64 x, .pointer (some ⟨b, 0, none⟩)] by simp]
  go_enter Try.func108, Try.ntmps108
  go_wp2_with fail
  go_ret
  exact ⟨rfl, rfl⟩

theorem fit_any (l : List Int) (n : Int) : (!l.any fun x => decide (n ≤ x)) = l.all fun x => decide (x < n) := by
  rw [List.not_any_eq_all_not]; congr 1; funext x; rw [Bool.eq_iff_iff]; simp

set_option maxHeartbeats 400000 in
theorem fitsIn_c (base : Int) (sh st : Value) (shape strides : List Int) (n : Int) (w : World) (lo lo' : Nat) (hsh : Ints w lo sh shape) (hst : Ints w lo' st strides) (hvb : viewB base shape strides = true) :
    Calls Try.prog 80 #[.agg #[.int .i64 base, sh, st], .int .i64 n] w fun e w' => e = .returned (.bool (fitB base shape strides n)) ∧ Ext w w' := by
  obtain ⟨h1, h2, _⟩ := viewB_in hvb
  have hin := Lib.hid (shapeB_in h1)
  clear hvb h1
  have h2 := Lib.hid h2
  go_enter Try.func80, Try.ntmps80
  go_wp2_with fail
  refine (offsetsOf_c base _ _ shape strides _ lo lo' (hsh.ext ((Ext.refl _).alloc _ |>.alloc _)) (hst.ext ((Ext.refl _).alloc _ |>.alloc _)) (by have := h2.out; omega) hin.out.2.2.2.2 (by have := hin.out; omega)).mono ?_
  rintro e w1 ⟨v1, rfl, hi1, _, hx1⟩
  have hcl : w1.cell? ⟨w.heap.size + 1, 0, none⟩ = some (.int .i64 n) := hx1.cell (by simp)
  go_wp2_with (go_at_call 87; refine (containsFunc_c _ _ _ _ _ _ _ hi1 (fitsInF_c _ _ n hcl)).mono ?_; rintro e w' ⟨rfl, rfl⟩)
  go_ret
  exact ⟨by unfold fitB; rw [← fit_any]; rfl, Ext.trans ((Ext.refl _).alloc _ |>.alloc _) hx1⟩

theorem fit_all {base : Int} {shape strides : List Int} (n : Int) (h : viewB base shape strides = true) : (offsL base shape strides).all (inB 0 (n - 1)) = fitB base shape strides n := by
  obtain ⟨_, _, _, _, h5⟩ := viewB_in h
  unfold fitB
  rw [Bool.eq_iff_iff]; simp only [List.all_eq_true, inB, decide_eq_true_eq]
  exact ⟨fun H x hx => by have := H x hx; omega, fun H x hx => by have := H x hx; have := h5 x hx; omega⟩

set_option maxHeartbeats 400000 in
theorem fits_c (base : Int) (sh st : Value) (shape strides : List Int) (n : Int) (w : World) (lo lo' : Nat) (hsh : Ints w lo sh shape) (hst : Ints w lo' st strides) (hvb : viewB base shape strides = true) (hn : 0 ≤ n) (hn2 : n ≤ 4194304) :
    Calls Try.prog 85 #[.agg #[.int .i64 base, sh, st], .int .i64 n] w fun e w' => e = .returned (.bool (fitB base shape strides n)) ∧ Ext w w' := by
  have hfa := Lib.hid (fit_all n hvb)
  obtain ⟨h1, h2, _⟩ := viewB_in hvb
  have hin := Lib.hid (shapeB_in h1)
  clear hvb h1
  have h2 := Lib.hid h2
  go_enter Try.func85, Try.ntmps85
  go_wp2_with fail
  refine (offsets_c base _ _ shape strides _ lo lo' (hsh.ext ((Ext.refl _).alloc _)) (hst.ext ((Ext.refl _).alloc _)) (by have := h2.out; omega) hin.out.2.2.2.2 (by have := hin.out; omega)).mono ?_
  rintro e w1 ⟨v1, rfl, hi1, _, hx1⟩
  go_wp2_with (go_at_call 73; refine (allIn_c _ _ _ _ _ _ hi1).mono ?_; rintro e w' ⟨rfl, rfl⟩)
  go_ret
  exact ⟨by rw [← hfa.out]; rfl, Ext.trans ((Ext.refl _).alloc _) hx1⟩

set_option maxHeartbeats 400000 in
theorem copyInts_c (xs : List Int) (v : Value) (w : World) (lo : Nat) (hv : Ints w lo v xs) :
    Calls Try.prog 42 #[v] w (PInts w xs) := by
  have hlen : xs.length ≤ 4194304 := by obtain ⟨_, _, _, _, _, ⟨h, _⟩, _⟩ := hv; exact h
  go_enter Try.func42, Try.ntmps42
  go_wp2_with (at_builtin; refine wpList_app rfl (.tmp 3) (.tmp 4) rfl rfl rfl (OwnI.lit0 w w.heap.size (Nat.le_refl _)) (hv.ext ((Ext.refl _).alloc _)) (by simpa using hlen) (by simp) ?_)
  intro v' w1 ho hg hb _
  have hx : Ext w w1 := ((Ext.refl w).alloc _).below hb (Nat.le_refl _)
  clear hg hb
  have ho := Lib.hid ho
  go_wp2
  go_ret
  exact PInts.mk ho.out (Nat.le_refl _) hlen hx

/-- a call hands back a new view -/
def PView (w : World) (base : Int) (shape strides : List Int) (e : Ending) (w' : World) : Prop :=
  ∃ sh st, e = .returned (.agg #[.int .i64 base, sh, st]) ∧ Ints w' w.heap.size sh shape ∧ Ints w' w.heap.size st strides ∧ OwnZ w' w.heap.size sh shape ∧ OwnZ w' w.heap.size st strides ∧
    (shape ≠ [] → strides ≠ [] → sh.ownBlock ≠ st.ownBlock) ∧ Ext w w'

theorem PView.mk {w w' : World} {base : Int} {shape strides : List Int} {v1 v2 : Value} {b1 b2 : Nat} (o1 : OwnZ w' b1 v1 shape) (o2 : OwnZ w' b2 v2 strides) (h1 : w.heap.size ≤ b1) (h2 : w.heap.size ≤ b2)
    (hd : shape ≠ [] → ∃ g, v1.ownBlock = some g ∧ g < b2) (l1 : shape.length ≤ 4194304) (l2 : strides.length ≤ 4194304) (hx : Ext w w') : PView w base shape strides (.returned (.agg #[.int .i64 base, v1, v2])) w' := by
  refine ⟨v1, v2, rfl, (o1.lower h1).ints l1, (o2.lower h2).ints l2, o1.lower h1, o2.lower h2, fun n1 n2 => ?_, hx⟩
  obtain ⟨g1, e1, t1⟩ := hd n1
  obtain ⟨g2, e2, t2, _⟩ := o2.lt n2
  rw [e1, e2]; simp; omega

theorem OwnZ.setCell_below {w : World} {base : Nat} {v : Value} {xs : List Int} (h : OwnZ w base v xs) {a : Addr} (ha : a.block < base) (u : Value) : OwnZ (w.setCell a u) base v xs :=
  h.imp id fun h => ownsRow_setCell_below h ha u

theorem copy_close {w w0 w1 w2 : World} {base : Int} {v1 v2 : Value} {shape strides : List Int} (hx0 : Ext w w0) (h1 : Ext w0 w1) (o1 : OwnZ w1 w0.heap.size v1 shape) (h2 : Ext w1 w2) (o2 : OwnZ w2 w1.heap.size v2 strides)
    (hz : w.heap.size + 1 < w0.heap.size) (l1 : shape.length ≤ 4194304) (l2 : strides.length ≤ 4194304) (a b c : Addr) (ha : a.block = w.heap.size + 1) (hb : b.block = w.heap.size + 1) (hc : c.block = w.heap.size + 1) (u v x : Value) :
    PView w base shape strides (.returned (.agg #[.int .i64 base, v1, v2])) (((w2.setCell a u).setCell b v).setCell c x) := by
  have z0 := hx0.size
  have z1 := h1.size
  have o1' := (((o1.ext h2).setCell_below (a := a) (by omega) u).setCell_below (a := b) (by omega) v).setCell_below (a := c) (by omega) x
  have o2' := ((o2.setCell_below (a := a) (by omega) u).setCell_below (a := b) (by omega) v).setCell_below (a := c) (by omega) x
  refine ⟨v1, v2, rfl, (o1'.lower (by omega)).ints l1, (o2'.lower (by omega)).ints l2, o1'.lower (by omega), o2'.lower (by omega), fun n1 n2 => ?_, ?_⟩
  · obtain ⟨g1, e1, _, t1⟩ := o1.lt n1
    obtain ⟨g2, e2, b2, _⟩ := o2.lt n2
    rw [e1, e2]; simp; omega
  · exact (((hx0.trans (h1.trans h2)).setCell (by omega) _).setCell (by omega) _).setCell (by omega) _

end Go.Proofs.Ytpgkhjmboiepcaa

/- Walks of the laws' helpers on views: copies and comparisons. -/
namespace Go.Proofs.Ytpgkhjmboiepcaa
open Go.RowKit
set_option linter.unusedVariables false
set_option maxRecDepth 100000

end Go.Proofs.Ytpgkhjmboiepcaa

/- Walks of the laws' marks on lists and on views. -/
namespace Go.Proofs.Ytpgkhjmboiepcaa
open Go.RowKit
set_option linter.unusedVariables false
set_option maxRecDepth 100000

end Go.Proofs.Ytpgkhjmboiepcaa

/- The laws' helpers in the form that the laws' walks take; rows under marks. No condition. -/
namespace Go.Proofs.Ytpgkhjmboiepcaa
open Go.RowKit
set_option linter.unusedVariables false

theorem Ext.size {w w' : World} (h : Ext w w') : w.heap.size ≤ w'.heap.size := Below.size h
theorem Ints.len {w : World} {lo : Nat} {v : Value} {xs : List Int} (h : Ints w lo v xs) : xs.length ≤ 4194304 := by obtain ⟨_, _, _, _, _, ⟨h, _⟩, _⟩ := h; exact h
theorem OwnZ.bound {w : World} {base : Nat} {v : Value} {xs : List Int} (h : OwnZ w base v xs) : xs ≠ [] → ∀ g, v.ownBlock = some g → g < w.heap.size := by
  intro hn g hg
  obtain ⟨g', e, _, hl⟩ := h.lt hn
  rw [e] at hg; cases hg; exact hl
theorem OwnZ.chgB {w w' : World} {lo hi base : Nat} {v : Value} {xs : List Int} (h : OwnZ w base v xs) (k : Chg lo hi w w') (hb : xs ≠ [] → ∀ g, v.ownBlock = some g → g < lo) : OwnZ w' base v xs := by
  rcases h with h | h
  · exact .inl h
  · by_cases hx : xs = []
    · subst hx
      obtain ⟨h1, h2⟩ := h
      rcases h2 with ⟨rfl, _⟩ | ⟨g, cap, cur, rfl, hg, hh, h3, h4, r⟩
      · exact .inl ⟨rfl, none, 0, rfl, by simp, fun _ => rfl⟩
      · exact .inl ⟨rfl, _, cap, rfl, h4, fun h => by cases h⟩
    · obtain ⟨h1, h2⟩ := h
      rcases h2 with h2 | ⟨g, cap, cur, rfl, hg, hh, r⟩
      · exact .inr ⟨h1, .inl h2⟩
      · exact .inr ⟨h1, .inr ⟨g, cap, cur, rfl, hg, (k.block g (Array.getElem?_eq_some_iff.1 hh).1 (.inl (hb hx g rfl))).trans hh, r⟩⟩
end Go.Proofs.Ytpgkhjmboiepcaa

/- Words for loops that append to a row of their own beside a list that they read. No condition. -/
namespace Go.Proofs.Ytpgkhjmboiepcaa
open Go.RowKit
set_option linter.unusedVariables false

theorem Ext.frz {w w' : World} (h : Ext w w') {b o : Nat} {f : Bool} (hb : b < w.heap.size) (hf : w.frozen? ⟨b, o, none⟩ = f) : w'.frozen? ⟨b, o, none⟩ = f := (h.frule b o hb).trans hf

/-- the row v of the call's own, blocks from B on, reads ys; the list u, which is only read, lies apart from it -/
structure Beside (B : Nat) (w0 wr : World) (v : Value) (ys : List Int) (u : Value) (xs : List Int) : Prop where
  own : OwnI wr B v ys
  bel : Below B w0 wr
  ints : Ints wr 0 u xs
  size : B ≤ wr.heap.size
  sep : xs ≠ [] → ∀ b off n c, u = .slice (some ⟨b, off, none⟩) n c → v.ownBlock ≠ some b

theorem Beside.start {w1 w2 : World} {u : Value} {xs : List Int} {lo : Nat} (hx : Ext (w1.alloc (.cells #[] 3)) w2) (hi : Ints w2 lo u xs) (hl : w1.heap.size < lo) :
    Beside w1.heap.size w1 w2 (.slice (some ⟨w1.heap.size, 0, none⟩) 0 0) [] u xs := by
  have hx' : Ext w1 w2 := Ext.trans ((Ext.refl _).alloc _) hx
  refine ⟨(OwnI.lit0 w1 w1.heap.size (Nat.le_refl _)).ext hx, hx', hi.lower (Nat.zero_le _), hx'.size, fun hn b off n c hu => ?_⟩
  subst hu
  obtain ⟨b', off', h4, h5, _⟩ := hi.blk hn
  cases h4
  intro h; cases h; simp at h5; omega
theorem Beside.app {B : Nat} {w0 wr w3 : World} {v v' u : Value} {ys ys' xs : List Int} (h : Beside B w0 wr v ys u xs) (o : Obj) (ho : OwnI w3 B v' ys') (hg : (wr.alloc o).grownBy w3 v.ownBlock)
    (hb : Below B (wr.alloc o) w3) (hv : v'.ownBlock = v.ownBlock ∨ v'.ownBlock = some (wr.alloc o).heap.size) : Beside B w0 w3 v' ys' u xs := by
  have hz := hb.size
  have hs := h.size
  simp at hz
  have hi := h.ints.ext ((Ext.refl wr).alloc o)
  obtain ⟨a, c, rfl⟩ := hi.form
  refine ⟨ho, (h.bel.alloc h.size o).trans hb, hi.keepG hg (fun b off e hn => ?_), by omega, fun hn b off n c e => ?_⟩
  · subst e; exact h.sep hn b off _ _ rfl
  · cases e
    rcases hv with hv | hv
    · rw [hv]; exact h.sep hn b off _ _ rfl
    · rw [hv]
      obtain ⟨b'', off'', e3, _, e4⟩ := h.ints.blk hn
      cases e3; simp; omega
theorem Beside.ext {B : Nat} {w0 wr w3 : World} {v u : Value} {ys xs : List Int} (h : Beside B w0 wr v ys u xs) (hx : Ext wr w3) : Beside B w0 w3 v ys u xs :=
  ⟨h.own.ext hx, Below.trans h.bel (Below.mono hx h.size), h.ints.ext hx, Nat.le_trans h.size hx.size, h.sep⟩

theorem Ints.drop {w : World} {lo : Nat} {a : Option Addr} {n c : Nat} {xs : List Int} (h : Ints w lo (.slice a n c) xs) (k : Nat) (hk : k ≤ n) : Ints w lo (.slice (if c = k then a else a.map (·.add k)) (n - k) (c - k)) (xs.drop k) := by
  obtain ⟨a', cap, hv, h1, h2, ⟨h3, h3'⟩, h4⟩ := h
  cases hv
  have hl : (xs.drop k).length = xs.length - k := by simp
  refine ⟨_, c - k, by rw [hl], by omega, by omega, ⟨by omega, fun e => ?_⟩, fun i hi => ?_⟩
  · by_cases hc : c = k
    · omega
    · rw [if_neg hc] at e
      cases a with
      | none => have := h3' rfl; omega
      | some ad => simp at e
  · obtain ⟨b, off, rfl, hb, hc, hf⟩ := h4 (k + i) (by omega)
    rw [if_neg (by omega)]
    have e : (⟨b, off, none⟩ : Addr).add k = ⟨b, off + k, none⟩ := by unfold Addr.add; split <;> simp_all
    refine ⟨b, off + k, by rw [Option.map_some, e], hb, ?_, by rw [Nat.add_assoc]; exact hf⟩
    rw [Nat.add_assoc, hc]
    simp [show k + i < xs.length by omega]

theorem Ints.drop1 {w : World} {lo b off : Nat} {n c : Nat} {xs : List Int} (h : Ints w lo (.slice (some ⟨b, off, none⟩) n c) xs) (k : Nat) (hk : k ≤ n) (hc : c ≠ k) : Ints w lo (.slice (some ⟨b, off + k, none⟩) (n - k) (c - k)) (xs.drop k) := by
  have := h.drop k hk
  rw [if_neg hc] at this
  have e : (⟨b, off, none⟩ : Addr).add k = ⟨b, off + k, none⟩ := by unfold Addr.add; split <;> simp_all
  rwa [Option.map_some, e] at this
theorem Ints.drop0 {w : World} {lo b off : Nat} {n c : Nat} {xs : List Int} (h : Ints w lo (.slice (some ⟨b, off, none⟩) n c) xs) (k : Nat) (hk : k ≤ n) (hc : c = k) : Ints w lo (.slice (some ⟨b, off, none⟩) (n - k) 0) (xs.drop k) := by
  have := h.drop k hk
  rw [if_pos hc] at this
  subst hc
  rwa [Nat.sub_self] at this

theorem PInts.of {w w' : World} {lo base : Nat} {xs : List Int} {v : Value} (h : OwnZ w' base v xs) (hi : Ints w' lo v xs) (hb : w.heap.size ≤ base) (hx : Ext w w') : PInts w xs (.returned v) w' := PInts.mkz h hb hi.len hx

theorem mk_ints (n : Nat) (hn : n ≤ 4194304) : ∀ w : World, (Instr.makeSlice 23 (.int .i64 (n : Int)) (.int .i64 (n : Int))).run Try.prog w = .ok (.slice (some ⟨w.heap.size, 0, none⟩) n n) (w.alloc (.cells (madeCells #[Value.int .i64 0] n) 3)) := by
  intro w
  obtain ⟨i0, hi, hz0, hz1, hz2⟩ := info_parts infoInt
  have := run_makeSlice (P := Try.prog) (w := w) 23 3 i0 (.int .i64 0) Try.underlying23 hi hz0 .i64 .i64 n n (by omega) (Int.le_refl _) (by rw [hz1]; simp; omega) (by rw [hz2]; omega) (by omega)
  simpa [hz1, Value.cells] using this
theorem OwnI.made (w : World) (base n : Nat) (hb : base ≤ w.heap.size) (hn : n ≤ 4194304) : OwnI (w.alloc (.cells (madeCells #[Value.int .i64 0] n) 3)) base (.slice (some ⟨w.heap.size, 0, none⟩) n n) (List.replicate n 0) := by
  have := World.ownsRow_lit (e := 3) (size := 1) w (madeCells #[Value.int .i64 0] n) n hb (by unfold maxLen; omega) (by simp [madeCells])
  unfold OwnI
  rw [made_ints] at this
  simpa using this

end Go.Proofs.Ytpgkhjmboiepcaa

/- Walks: WayOf of the program and of the reference. -/
namespace Go.Proofs.Ytpgkhjmboiepcaa
open Go.RowKit
set_option linter.unusedVariables false
set_option maxRecDepth 100000

end Go.Proofs.Ytpgkhjmboiepcaa

/- Walks: values that are loaded from and stored in memories, of the program and of the reference. -/
namespace Go.Proofs.Ytpgkhjmboiepcaa
open Go.RowKit
set_option linter.unusedVariables false
set_option maxRecDepth 100000

/-- the numbers of a list at indices -/
def takL (xs ix : List Int) : List Int := ix.map fun i => xs.getD i.toNat 0
theorem takL_take (xs ix : List Int) (k : Nat) (h : k < ix.length) : takL xs (ix.take (k+1)) = takL xs (ix.take k) ++ [xs.getD (ix[k]).toNat 0] := by
 unfold takL; rw [List.take_succ_eq_append_getElem h, List.map_append]; rfl
theorem takL_len (xs ix : List Int) : (takL xs ix).length = ix.length := by simp [takL]
/-- a list after the first k stores -/
def putUp (mem ix vs : List Int) (k : Nat) : List Int := (List.range k).foldl (fun m i => m.set (ix.getD i 0).toNat (vs.getD i 0)) mem
theorem putUp_succ (mem ix vs : List Int) (k : Nat) : putUp mem ix vs (k+1) = (putUp mem ix vs k).set (ix.getD k 0).toNat (vs.getD k 0) := by
 unfold putUp; rw [List.range_succ, List.foldl_append]; rfl
theorem putUp_len (mem ix vs : List Int) (k : Nat) : (putUp mem ix vs k).length = mem.length := by
 induction k with
 | zero => rfl
 | succ k ih => rw [putUp_succ, List.length_set, ih]
def loadL (mem : List Int) (b : Int) (s t : List Int) : List Int := takL mem (offsL b s t)
def holdB (mem : List Int) (b : Int) (s t : List Int) : Bool := memB mem && (viewB b s t && fitB b s t mem.length)
theorem hold_in {mem : List Int} {b : Int} {s t : List Int} (h : holdB mem b s t = true) : memB mem = true ∧ viewB b s t = true ∧ ∀ x ∈ offsL b s t, 0 ≤ x ∧ x < mem.length := by
 unfold holdB at h
 simp only [Bool.and_eq_true] at h
 refine ⟨h.1, h.2.1, fun x hx => ⟨((viewB_in h.2.1).2.2.2.2 x hx).1, ?_⟩⟩
 have := List.all_eq_true.1 h.2.2 x hx
 simpa using this
theorem mem_len {mem : List Int} (h : memB mem = true) : mem.length ≤ 60 := by
 unfold memB at h; simp only [Bool.and_eq_true, decide_eq_true_eq] at h; exact h.1
theorem OwnI.row {w : World} {base : Nat} {v : Value} {xs : List Int} (h : OwnI w base v xs) (hn : xs ≠ []) : ∃ g cap, v = .slice (some ⟨g, 0, none⟩) xs.length cap ∧ base ≤ g ∧ g < w.heap.size := by
 rcases h.2 with ⟨rfl, h0⟩ | ⟨g, cap, cur, rfl, hb, hg, _⟩
 ·
  exact absurd (List.eq_nil_of_length_eq_zero h0) hn
 ·
  exact ⟨g, cap, rfl, hb, (Array.getElem?_eq_some_iff.1 hg).1⟩

set_option maxHeartbeats 1600000 in
theorem takenOf_c (xs ix : List Int) (a b : Value) (w : World) (la lb : Nat) (ha : Ints w la a xs) (hb : Ints w lb b ix) (hin : ∀ i ∈ ix, 0 ≤ i ∧ i < xs.length) :
  Calls Try.prog 81 #[a, b] w (PInts w (takL xs ix)) := by
 obtain ⟨a1, c1, rfl⟩ := ha.form
 obtain ⟨a2, c2, rfl⟩ := hb.form
 have hlen := hb.len
 replace hin := Lib.hid hin
 go_enter Try.func81, Try.ntmps81
 go_wp2_with fail
 go_loopw [5, 11] (fun v i wr => ∃ k : Nat, k ≤ ix.length ∧ i = .int .i64 k ∧ OwnI wr w.heap.size v (takL xs (ix.take k)) ∧ Ext w wr) (fun _ i _ => ix.length - (intOf i).toNat)
 case atStart => exact ⟨0, Nat.zero_le _, rfl, OwnI.lit0 w w.heap.size (Nat.le_refl _), qXo⟩
 case round =>
  obtain ⟨k, hk, rfl, ho, hx⟩ := hrel
  have hz := hx.size
  have hl := Lib.hid (takL_len xs (ix.take k))
  by_cases hlt : k < ix.length
  ·
   obtain ⟨_, _, hv, _, _, _, hc⟩ := hb.ext hx
   cases hv
   obtain ⟨b1, off1, rfl, _, hcell, _⟩ := hc k hlt
   have g : ix.getD k 0 = ix[k] := by simp [hlt]
   have hs := takL_take xs ix k hlt
   obtain ⟨i1, i2⟩ := hin.out _ (List.getElem_mem hlt)
   obtain ⟨j, hj⟩ : ∃ j : Nat, ix[k] = j := ⟨_, (Int.toNat_of_nonneg i1).symm⟩
   rw [g, hj] at hcell
   rw [hj] at hs i2
   have hjl : j < xs.length := by omega
   obtain ⟨_, _, hv, _, _, _, hc'⟩ := ha.ext hx
   cases hv
   obtain ⟨b2, off2, rfl, _, hcell2, _⟩ := hc' j hjl
   have g2 : xs.getD j 0 = xs[j] := by simp [hjl]
   rw [g2] at hcell2
   have hs' := Lib.hid (show takL xs (ix.take (k+1)) = takL xs (ix.take k) ++ [xs[j]] by rw [hs]; simp [hjl])
   clear hc hc' g g2 hj hs i1
   go_wp2_with (at_builtin; refine wpList_app rfl (.tmp 15) (.tmp 20) rfl rfl rfl (ho.ext ((Ext.refl _).alloc _)) (Ints.one _ 0 _ (Nat.zero_le _)) (by have := hl.out; simp only [List.length_cons, List.length_nil, List.length_take] at this ⊢; omega) (by simp; omega) ?_)
   intro v' w3 ho3 _ hb3 _
   have hx3 := (hx.alloc (.cells #[.int .i64 xs[j]] 3)).below hb3 (by omega)
   clear hb3 ho
   replace ho3 := Lib.hid ho3
   go_wp2_with fail
   go_roundw
   case rel => exact ⟨k+1, by omega, by go_num, by rw [hs'.out]; exact ho3.out, hx3⟩
   case measure => simp [intOf]; omega
  ·
   obtain rfl : k = ix.length := by omega
   replace ho := Lib.hid ho
   go_wp2_with fail
   go_ret
   exact PInts.mk (by have := ho.out; rw [List.take_length] at this; exact this) (Nat.le_refl _) (by rw [takL_len]; omega) hx

set_option maxHeartbeats 1600000 in
theorem canHold_c (mem : List Int) (a0 : Value) (b1 : Int) (u1 v1 : Value) (s1 t1 : List Int) (w : World) (l0 l1 m1 : Nat) (h0 : Ints w l0 a0 mem) (h1 : Ints w l1 u1 s1) (k1 : Ints w m1 v1 t1) :
  Calls Try.prog 39 #[a0, .agg #[.int .i64 b1, u1, v1]] w (fun e w' => e = .returned (.bool (holdB mem b1 s1 t1)) ∧ Ext w w') := by
 obtain ⟨a0, c0, rfl⟩ := h0.form
 cases hm : memB mem
 ·
  have hr := Lib.hid (show holdB mem b1 s1 t1 = false by unfold holdB; rw [hm]; rfl)
  go_enter Try.func39, Try.ntmps39
  go_wp2_with fail
  refine (isMemory_c mem _ _ _ (h0.ext qXo)).mono ?_
  rintro e w' ⟨rfl, rfl⟩
  rw [hm]
  go_wp2_with fail
  go_ret
  exact ⟨by rw [hr.out] <;> rfl, qXo⟩
 ·
  cases ha : viewB b1 s1 t1
  ·
   have hr := Lib.hid (show holdB mem b1 s1 t1 = false by unfold holdB; rw [hm, ha]; rfl)
   have hm' := Lib.hid hm
   clear hm
   go_enter Try.func39, Try.ntmps39
   go_wp2_with fail
   refine (isMemory_c mem _ _ _ (h0.ext qXo)).mono ?_
   rintro e w' ⟨rfl, rfl⟩
   rw [hm'.out]
   go_wp2_with fail
   refine (isView_c b1 _ _ s1 t1 _ l1 m1 (h1.ext qXo) (k1.ext qXo)).mono ?_
   rintro e w1 ⟨rfl, xw1⟩
   have Lw1 : Ext w w1 := Ext.trans qXo xw1
   have Xw1 : Ext w w1 := Lw1
   have c10 : w1.cell? ⟨w.heap.size, 0, none⟩ = some (.int .i64 b1) := xw1.cell qCl
   have c11 : w1.cell? ⟨w.heap.size, 1, none⟩ = some (u1) := xw1.cell qCl
   have c12 : w1.cell? ⟨w.heap.size, 2, none⟩ = some (v1) := xw1.cell qCl
   have z1 : w.heap.size < w1.heap.size := qB c10
   have sw1 : w.heap.size ≤ w1.heap.size := Lw1.size
   rw [ha]
   go_wp2_with fail
   go_ret
   exact ⟨by rw [hr.out] <;> rfl, Xw1⟩
  ·
   have hr := Lib.hid (show holdB mem b1 s1 t1 = fitB b1 s1 t1 mem.length by unfold holdB; rw [hm, ha]; rfl)
   have hml := mem_len hm
   have hm' := Lib.hid hm
   have ha' := Lib.hid ha
   clear hm ha
   go_enter Try.func39, Try.ntmps39
   go_wp2_with fail
   refine (isMemory_c mem _ _ _ (h0.ext qXo)).mono ?_
   rintro e w' ⟨rfl, rfl⟩
   rw [hm'.out]
   go_wp2_with fail
   refine (isView_c b1 _ _ s1 t1 _ l1 m1 (h1.ext qXo) (k1.ext qXo)).mono ?_
   rintro e w1 ⟨rfl, xw1⟩
   have Lw1 : Ext w w1 := Ext.trans qXo xw1
   have Xw1 : Ext w w1 := Lw1
   have c10 : w1.cell? ⟨w.heap.size, 0, none⟩ = some (.int .i64 b1) := xw1.cell qCl
   have c11 : w1.cell? ⟨w.heap.size, 1, none⟩ = some (u1) := xw1.cell qCl
   have c12 : w1.cell? ⟨w.heap.size, 2, none⟩ = some (v1) := xw1.cell qCl
   have z1 : w.heap.size < w1.heap.size := qB c10
   have sw1 : w.heap.size ≤ w1.heap.size := Lw1.size
   rw [ha'.out]
   go_wp2_with fail
   refine (fitsIn_c b1 _ _ s1 t1 (mem.length : Int) _ l1 m1 (h1.ext (Xw1.trans qXo)) (k1.ext (Xw1.trans qXo)) ha'.out).mono ?_
   rintro e w2 ⟨rfl, xw2⟩
   have Lw2 : Ext w1 w2 := Ext.trans qXo xw2
   have Xw2 : Ext w w2 := Xw1.trans Lw2
   replace c10 := Lw2.cell c10
   replace c11 := Lw2.cell c11
   replace c12 := Lw2.cell c12
   have z2 : w.heap.size < w2.heap.size := qB c10
   have sw2 : w1.heap.size ≤ w2.heap.size := Lw2.size
   go_wp2_with fail
   go_ret
   exact ⟨by rw [hr.out] <;> rfl, Xw2⟩

set_option maxHeartbeats 1600000 in
theorem sees_c (mem : List Int) (a0 : Value) (b1 : Int) (u1 v1 : Value) (s1 t1 : List Int) (w : World) (l0 l1 m1 : Nat) (h0 : Ints w l0 a0 mem) (h1 : Ints w l1 u1 s1) (k1 : Ints w m1 v1 t1) :
  Calls Try.prog 41 #[a0, .agg #[.int .i64 b1, u1, v1]] w (fun e w' => e = .returned (.bool (holdB mem b1 s1 t1)) ∧ Ext w w') := by
 obtain ⟨a0, c0, rfl⟩ := h0.form
 cases hm : memB mem
 ·
  have hr := Lib.hid (show holdB mem b1 s1 t1 = false by unfold holdB; rw [hm]; rfl)
  go_enter Try.func41, Try.ntmps41
  go_wp2_with fail
  refine (validMemory_c mem _ _ _ (h0.ext qXo)).mono ?_
  rintro e w' ⟨rfl, rfl⟩
  rw [hm]
  go_wp2_with fail
  go_ret
  exact ⟨by rw [hr.out] <;> rfl, qXo⟩
 ·
  cases ha : viewB b1 s1 t1
  ·
   have hr := Lib.hid (show holdB mem b1 s1 t1 = false by unfold holdB; rw [hm, ha]; rfl)
   have hm' := Lib.hid hm
   clear hm
   go_enter Try.func41, Try.ntmps41
   go_wp2_with fail
   refine (validMemory_c mem _ _ _ (h0.ext qXo)).mono ?_
   rintro e w' ⟨rfl, rfl⟩
   rw [hm'.out]
   go_wp2_with fail
   refine (validView_c b1 _ _ s1 t1 _ l1 m1 (h1.ext qXo) (k1.ext qXo)).mono ?_
   rintro e w1 ⟨rfl, xw1⟩
   have Lw1 : Ext w w1 := Ext.trans qXo xw1
   have Xw1 : Ext w w1 := Lw1
   have c10 : w1.cell? ⟨w.heap.size, 0, none⟩ = some (.int .i64 b1) := xw1.cell qCl
   have c11 : w1.cell? ⟨w.heap.size, 1, none⟩ = some (u1) := xw1.cell qCl
   have c12 : w1.cell? ⟨w.heap.size, 2, none⟩ = some (v1) := xw1.cell qCl
   have z1 : w.heap.size < w1.heap.size := qB c10
   have sw1 : w.heap.size ≤ w1.heap.size := Lw1.size
   rw [ha]
   go_wp2_with fail
   go_ret
   exact ⟨by rw [hr.out] <;> rfl, Xw1⟩
  ·
   have hr := Lib.hid (show holdB mem b1 s1 t1 = fitB b1 s1 t1 mem.length by unfold holdB; rw [hm, ha]; rfl)
   have hml := mem_len hm
   have hm' := Lib.hid hm
   have ha' := Lib.hid ha
   clear hm ha
   go_enter Try.func41, Try.ntmps41
   go_wp2_with fail
   refine (validMemory_c mem _ _ _ (h0.ext qXo)).mono ?_
   rintro e w' ⟨rfl, rfl⟩
   rw [hm'.out]
   go_wp2_with fail
   refine (validView_c b1 _ _ s1 t1 _ l1 m1 (h1.ext qXo) (k1.ext qXo)).mono ?_
   rintro e w1 ⟨rfl, xw1⟩
   have Lw1 : Ext w w1 := Ext.trans qXo xw1
   have Xw1 : Ext w w1 := Lw1
   have c10 : w1.cell? ⟨w.heap.size, 0, none⟩ = some (.int .i64 b1) := xw1.cell qCl
   have c11 : w1.cell? ⟨w.heap.size, 1, none⟩ = some (u1) := xw1.cell qCl
   have c12 : w1.cell? ⟨w.heap.size, 2, none⟩ = some (v1) := xw1.cell qCl
   have z1 : w.heap.size < w1.heap.size := qB c10
   have sw1 : w.heap.size ≤ w1.heap.size := Lw1.size
   rw [ha'.out]
   go_wp2_with fail
   refine (fits_c b1 _ _ s1 t1 (mem.length : Int) _ l1 m1 (h1.ext (Xw1.trans qXo)) (k1.ext (Xw1.trans qXo)) ha'.out (by omega) (by omega)).mono ?_
   rintro e w2 ⟨rfl, xw2⟩
   have Lw2 : Ext w1 w2 := Ext.trans qXo xw2
   have Xw2 : Ext w w2 := Xw1.trans Lw2
   replace c10 := Lw2.cell c10
   replace c11 := Lw2.cell c11
   replace c12 := Lw2.cell c12
   have z2 : w.heap.size < w2.heap.size := qB c10
   have sw2 : w1.heap.size ≤ w2.heap.size := Lw2.size
   go_wp2_with fail
   go_ret
   exact ⟨by rw [hr.out] <;> rfl, Xw2⟩

set_option maxHeartbeats 1600000 in
theorem loadView_c (mem : List Int) (a0 : Value) (b1 : Int) (u1 v1 : Value) (s1 t1 : List Int) (w : World) (l0 l1 m1 : Nat) (h0 : Ints w l0 a0 mem) (h1 : Ints w l1 u1 s1) (k1 : Ints w m1 v1 t1) (hh : holdB mem b1 s1 t1 = true) :
  Calls Try.prog 40 #[a0, .agg #[.int .i64 b1, u1, v1]] w (PInts w (loadL mem b1 s1 t1)) := by
 obtain ⟨hm, ha, hix⟩ := hold_in hh
 obtain ⟨a0, c0, rfl⟩ := h0.form
 replace hix := Lib.hid hix
 obtain ⟨j1, j2, -⟩ := viewB_in ha
 have hin1 := Lib.hid (shapeB_in j1)
 have hg1 := Lib.hid j2
 clear j1 j2
 clear ha hm hh
 go_enter Try.func40, Try.ntmps40
 go_wp2_with fail
 refine (offsetsOf_c b1 _ _ s1 t1 _ l1 m1 (h1.ext qXo) (k1.ext qXo) (by have := hg1.out; omega) hin1.out.2.2.2.2 (by have := hin1.out; omega)).mono ?_
 rintro e w1 ⟨r1, rfl, i1, -, xw1⟩
 have Lw1 : Ext w w1 := Ext.trans qXo xw1
 have Xw1 : Ext w w1 := Lw1
 have c10 : w1.cell? ⟨w.heap.size, 0, none⟩ = some (.int .i64 b1) := xw1.cell qCl
 have c11 : w1.cell? ⟨w.heap.size, 1, none⟩ = some (u1) := xw1.cell qCl
 have c12 : w1.cell? ⟨w.heap.size, 2, none⟩ = some (v1) := xw1.cell qCl
 have z1 : w.heap.size < w1.heap.size := qB c10
 have sw1 : w.heap.size ≤ w1.heap.size := Lw1.size
 go_wp2_with fail
 refine (takenOf_c mem (offsL b1 s1 t1) _ _ _ _ _ (h0.ext (Xw1.trans qXo)) (i1.ext qXo) hix.out).mono ?_
 rintro e w2 ⟨r2, rfl, i2, o2, xw2⟩
 have Lw2 : Ext w1 w2 := Ext.trans qXo xw2
 have Xw2 : Ext w w2 := Xw1.trans Lw2
 replace c10 := Lw2.cell c10
 replace c11 := Lw2.cell c11
 replace c12 := Lw2.cell c12
 have z2 : w.heap.size < w2.heap.size := qB c10
 have sw2 : w1.heap.size ≤ w2.heap.size := Lw2.size
 go_wp2_with fail
 go_ret
 exact PInts.of o2 i2 (Ext.size (show Ext w _ from (Xw1.trans qXo))) Xw2

set_option maxHeartbeats 3200000 in
theorem load_c (mem : List Int) (a0 : Value) (b1 : Int) (u1 v1 : Value) (s1 t1 : List Int) (w : World) (l0 l1 m1 : Nat) (h0 : Ints w l0 a0 mem) (h1 : Ints w l1 u1 s1) (k1 : Ints w m1 v1 t1) (hh : holdB mem b1 s1 t1 = true) :
  Calls Try.prog 43 #[a0, .agg #[.int .i64 b1, u1, v1]] w (PInts w (loadL mem b1 s1 t1)) := by
 obtain ⟨hm, ha, hix⟩ := hold_in hh
 obtain ⟨a0, c0, rfl⟩ := h0.form
 have hlen := offs_len ha
 replace hix := Lib.hid hix
 obtain ⟨j1, j2, -⟩ := viewB_in ha
 have hin1 := Lib.hid (shapeB_in j1)
 have hg1 := Lib.hid j2
 clear j1 j2
 clear ha hm hh
 go_enter Try.func43, Try.ntmps43
 go_wp2_with fail
 have X0 : Ext w (w.alloc (.cells #[.int .i64 b1, u1, v1] 25)) := qXo
 refine (offsets_c b1 _ _ s1 t1 _ l1 m1 (h1.ext qXo) (k1.ext qXo) (by have := hg1.out; omega) hin1.out.2.2.2.2 (by have := hin1.out; omega)).mono ?_
 rintro e w1 ⟨r1, rfl, i1, -, xw1⟩
 have Xw1 : Ext w w1 := Ext.trans qXo xw1
 have hsd := Beside.start (w1 := (w.alloc (.cells #[.int .i64 b1, u1, v1] 25))) xw1 i1 (by simp)
 have hz1 := xw1.size
 simp at hz1
 have hr := Lib.hid (show loadL mem b1 s1 t1 = takL mem (offsL b1 s1 t1) by rfl)
 generalize offsL b1 s1 t1 = ix at *
 obtain ⟨a1, c1, rfl⟩ := i1.form
 clear h1 k1 i1
 go_wp2_with fail
 have hBs : (w.alloc (.cells #[.int .i64 b1, u1, v1] 25)).heap.size = w.heap.size + 1 := by simp
 go_loopw [5, 7] (fun v i wr => ∃ k : Nat, k ≤ ix.length ∧ i = .int .i64 k ∧ Beside (w.heap.size + 1) (w.alloc (.cells #[.int .i64 b1, u1, v1] 25)) wr v (takL mem (ix.take k)) (.slice a1 ix.length c1) ix) (fun _ i _ => ix.length - (intOf i).toNat)
 case atStart => exact ⟨0, Nat.zero_le _, rfl, by simpa [takL] using hsd⟩
 case round =>
  obtain ⟨k, hk, rfl, hB⟩ := hrel
  have hz := hB.size
  have hl := Lib.hid (takL_len mem (ix.take k))
  have hx : Ext w wr := Below.trans X0 (Below.mono hB.bel (by omega))
  have hir := hB.ints
  by_cases hlt : k < ix.length
  ·
   obtain ⟨_, _, hv, _, _, _, hc⟩ := hir
   cases hv
   obtain ⟨b1', off1, rfl, _, hcell, _⟩ := hc k hlt
   have g : ix.getD k 0 = ix[k] := by simp [hlt]
   have hs := takL_take mem ix k hlt
   obtain ⟨i1, i2⟩ := hix.out _ (List.getElem_mem hlt)
   obtain ⟨j, hj⟩ : ∃ j : Nat, ix[k] = j := ⟨_, (Int.toNat_of_nonneg i1).symm⟩
   rw [g, hj] at hcell
   rw [hj] at hs i2
   have hjl : j < mem.length := by omega
   obtain ⟨_, _, hv, _, _, _, hc'⟩ := h0.ext hx
   cases hv
   obtain ⟨b2, off2, rfl, _, hcell2, _⟩ := hc' j hjl
   have g2 : mem.getD j 0 = mem[j] := by simp [hjl]
   rw [g2] at hcell2
   have hs' := Lib.hid (show takL mem (ix.take (k+1)) = takL mem (ix.take k) ++ [mem[j]] by rw [hs]; simp [hjl])
   clear hc hc' g g2 hj hs i1
   go_wp2_with (at_builtin; refine wpList_app rfl (.tmp 17) (.tmp 25) rfl rfl rfl (hB.own.ext ((Ext.refl _).alloc _)) (Ints.one _ 0 _ (Nat.zero_le _)) (by have := hl.out; simp only [List.length_cons, List.length_nil, List.length_take] at this ⊢; omega) (by simp; omega) ?_)
   intro v' w3 ho3 hg3 hb3 hv3
   have hB3 := Lib.hid (hB.app _ ho3 hg3 hb3 (by simpa using hv3))
   clear ho3 hg3 hb3 hv3 hB
   go_wp2_with fail
   go_roundw
   case rel => exact ⟨k+1, by omega, by go_num, by rw [hs'.out]; exact hB3.out⟩
   case measure => simp [intOf]; omega
  ·
   obtain rfl : k = ix.length := by omega
   replace hB := Lib.hid hB
   clear hir
   go_wp2_with fail
   go_ret
   rw [hr.out]
   exact PInts.mk (by have := hB.out.own; rw [List.take_length] at this; exact this) (by omega) (by rw [takL_len]; omega) hx

theorem OwnZ.ofNe {w : World} {base : Nat} {v : Value} {xs : List Int} (h : OwnZ w base v xs) (hn : xs ≠ []) : OwnI w base v xs := h.elim (fun h => absurd h.1 hn) id

end Go.Proofs.Ytpgkhjmboiepcaa

/- Walks: SwapViews of the program and of the reference. -/
namespace Go.Proofs.Ytpgkhjmboiepcaa
open Go.RowKit
set_option linter.unusedVariables false
set_option maxRecDepth 100000

/-- a call hands back a new list and whether it could be made -/
def PIntsB (w : World) (xs : List Int) (b : Bool) (e : Ending) (w' : World) : Prop := ∃ v, e = .returned (.tuple #[v, .bool b]) ∧ Ints w' w.heap.size v xs ∧ OwnZ w' w.heap.size v xs ∧ Ext w w'
theorem PIntsB.no {w w' : World} (h : Ext w w') : PIntsB w [] false (.returned (.tuple #[.slice none 0 0, .bool false])) w' :=
  ⟨_, rfl, Ints.nil _ _ _ _ (by simp) (fun _ => rfl), .inl ⟨rfl, none, 0, rfl, by simp, fun _ => rfl⟩, h⟩
theorem PIntsB.yes {w w' : World} {lo base : Nat} {xs : List Int} {v : Value} (h : OwnZ w' base v xs) (hi : Ints w' lo v xs) (hb : w.heap.size ≤ base) (hx : Ext w w') : PIntsB w xs true (.returned (.tuple #[v, .bool true])) w' :=
  ⟨v, rfl, (h.lower hb).ints hi.len, h.lower hb, hx⟩
end Go.Proofs.Ytpgkhjmboiepcaa

/- Walks: CellsOf and OverlapOf of the program and of the reference. -/
namespace Go.Proofs.Ytpgkhjmboiepcaa
open Go.RowKit
set_option linter.unusedVariables false
set_option maxRecDepth 100000

end Go.Proofs.Ytpgkhjmboiepcaa

/- Walks: normal forms of ranges, LineOf of the program and of the reference, comparison of ranges. -/
namespace Go.Proofs.Ytpgkhjmboiepcaa
open Go.RowKit
set_option linter.unusedVariables false
set_option maxRecDepth 100000

theorem Ints.head {w : World} {lo : Nat} {v : Value} {xs : List Int} (h : Ints w lo v xs) (hn : 0 < xs.length) : ∃ b off c, v = .slice (some ⟨b, off, none⟩) xs.length c ∧ w.cell? ⟨b, off, none⟩ = some (.int .i64 (xs.getD 0 0)) := by
  obtain ⟨a, cap, rfl, _, _, _, h4⟩ := h
  obtain ⟨b, off, rfl, _, hc, _⟩ := h4 0 hn
  exact ⟨b, off, cap, rfl, hc⟩

set_option maxHeartbeats 3200000 in
theorem normal_c (xs : List Int) (v : Value) (w : World) (lo : Nat) (hv : Ints w lo v xs) (hb : ∀ x ∈ xs, -1000000 ≤ x ∧ x ≤ 1000000) :
    Calls Try.prog 155 #[v] w (fun e w' => e = .returned (.agg #[.int .i64 (normL xs).1, .int .i64 (normL xs).2.1, .int .i64 (normL xs).2.2]) ∧ Ext w w') := by
  rcases xs with _ | ⟨x, _ | ⟨y, r⟩⟩
  · obtain ⟨a, cap, rfl, _⟩ := hv
    go_enter Try.func155, Try.ntmps155
    go_wp2_with fail
    refine bodyPost_ret (v := .agg #[.int .i64 (0), .int .i64 (0), .int .i64 (1)]) (by simp only [results, Try.results155]; go_simp) rfl ⟨?_, (by repeat (first | exact Ext.refl _ | assumption | apply Ext.drewN | apply Ext.drew | apply Ext.alloc | (refine Ext.setCell ?_ (by simp) _)))⟩
    rfl
  · obtain ⟨b, off, c, rfl, hcell⟩ := hv.head (by simp)
    have hx := hb x (List.mem_cons_self ..)
    have hnn := World.new_ne _ _ hcell
    have e1 : IntKind.i64.wrap (x + 1) = x + 1 := IntWalk.i64_in _ (by omega)
    simp at hcell
    go_enter Try.func155, Try.ntmps155
    go_wp2_with fail
    go_region_held3 (fun w' => w'.cell? ⟨b, off, none⟩ = some (.int .i64 x)) (go_keep) (fail)
    go_wp2_with fail
    refine bodyPost_ret (v := .agg #[.int .i64 (x), .int .i64 (x + 1), .int .i64 (1)]) (by simp only [results, Try.results155]; go_simp) rfl ⟨?_, (by repeat (first | exact Ext.refl _ | assumption | apply Ext.drewN | apply Ext.drew | apply Ext.alloc | (refine Ext.setCell ?_ (by simp) _)))⟩
    rfl
  · obtain ⟨a, c, hv', hlc, hcm, ⟨hlen, _⟩, hc⟩ := hv
    subst hv'
    obtain ⟨b, off, rfl, _, hcell, _⟩ := hc 0 (by simp)
    obtain ⟨_, _, hh, _, hcell1, _⟩ := hc 1 (by simp)
    cases hh
    obtain ⟨_, _, hh, _, hcell2, _⟩ := hc (r.length + 1) (by simp)
    cases hh
    have hx := hb x (List.mem_cons_self ..)
    have hy := hb y (List.mem_cons_of_mem _ (List.mem_cons_self ..))
    have hz := hb _ (List.mem_cons_of_mem _ (List.getLast_mem (l := y :: r) (by simp)))
    have hg : (x :: y :: r).getD (r.length + 1) 0 = (y :: r).getLast (by simp) := by rw [List.getLast_eq_getElem]; simp
    rw [hg] at hcell2
    have hll : (x :: y :: r).length = r.length + 2 := by simp
    have hN : normL (x :: y :: r) = (x, if y - x < 0 then (y :: r).getLast (by simp) - 1 else (y :: r).getLast (by simp) + 1, y - x) := rfl
    generalize (y :: r).getLast (by simp) = z at *
    replace hN := Lib.hid hN
    have hn2 : 2 ≤ (x :: y :: r).length := by omega
    rw [show r.length + 1 = (x :: y :: r).length - 1 by omega] at hcell2
    generalize (x :: y :: r).length = n at *
    simp at hcell hcell1
    have hnn := World.new_ne _ _ hcell
    have hnn : w.heap.size ≠ b := hnn
    have e1 : IntKind.i64.wrap (z + 1) = z + 1 := IntWalk.i64_in _ (by omega)
    have e2 : IntKind.i64.wrap (y - x) = y - x := IntWalk.i64_in _ (by omega)
    have e3 : IntKind.i64.wrap ((n : Int) - 1) = (n : Int) - 1 := IntWalk.i64_in _ (by omega)
    have e4 : ((n : Int) - 1).toNat = n - 1 := by omega
    have e5 : (0 : Int) ≤ (n : Int) - 1 := by omega
    have e6 : (n : Int) - 1 < n := by omega
    have e7 : (0 : Int) < n := by omega
    have e8 : (1 : Int) < n := by omega
    have e9 : (1 : Int) ≤ n := by omega
    have e10 : 0 < n := by omega
    have e11 : 1 ≤ n := by omega
    have e12 : 1 < n := by omega
    clear hc hg hll hb hcm hlen hlc hn2
    obtain ⟨hz1, hz2⟩ := hz
    obtain ⟨hx1, hx2⟩ := hx
    obtain ⟨hy1, hy2⟩ := hy
    by_cases hs : y - x < 0
    · have hN' := Lib.hid (show normL (x :: y :: r) = (x, z - 1, y - x) by rw [hN.out, if_pos hs])
      go_enter Try.func155, Try.ntmps155
      go_wp2_with fail
      go_region_held3 (fun w' => w'.cell? ⟨b, off, none⟩ = some (.int .i64 x) ∧ w'.cell? ⟨b, off + 1, none⟩ = some (.int .i64 y) ∧ w'.cell? ⟨b, off + (n - 1), none⟩ = some (.int .i64 z)) (go_keep) (fail)
      go_wp2_with fail
      refine bodyPost_ret (v := .agg #[.int .i64 (x), .int .i64 (z - 1), .int .i64 (y - x)]) (by simp only [results, Try.results155]; go_simp) rfl ⟨?_, (by repeat (first | exact Ext.refl _ | assumption | apply Ext.drewN | apply Ext.drew | apply Ext.alloc | (refine Ext.setCell ?_ (by simp) _)))⟩
      rw [hN'.out]
    · have hN' := Lib.hid (show normL (x :: y :: r) = (x, z + 1, y - x) by rw [hN.out, if_neg hs])
      go_enter Try.func155, Try.ntmps155
      go_wp2_with fail
      go_region_held3 (fun w' => w'.cell? ⟨b, off, none⟩ = some (.int .i64 x) ∧ w'.cell? ⟨b, off + 1, none⟩ = some (.int .i64 y) ∧ w'.cell? ⟨b, off + (n - 1), none⟩ = some (.int .i64 z)) (go_keep) (fail)
      go_wp2_with fail
      refine bodyPost_ret (v := .agg #[.int .i64 (x), .int .i64 (z + 1), .int .i64 (y - x)]) (by simp only [results, Try.results155]; go_simp) rfl ⟨?_, (by repeat (first | exact Ext.refl _ | assumption | apply Ext.drewN | apply Ext.drew | apply Ext.alloc | (refine Ext.setCell ?_ (by simp) _)))⟩
      rw [hN'.out]

end Go.Proofs.Ytpgkhjmboiepcaa

/- Walks: valid ranges and the numbers of a range, of the program and of the reference. -/
namespace Go.Proofs.Ytpgkhjmboiepcaa
open Go.RowKit
set_option linter.unusedVariables false
set_option maxRecDepth 100000

theorem cntL_le {a b s : Int} (h1 : -1000 ≤ a ∧ a ≤ 1000) (h2 : -1000 ≤ b ∧ b ≤ 1000) (h3 : s ≠ 0) : cntL a b s ≤ 2000 := by
  rcases Nat.lt_or_ge 2000 (cntL a b s) with h | h
  · exfalso
    have hk := (num_step (a := a) (b := b) h3 2000).2 h
    rcases hk with ⟨hs, hk⟩ | ⟨hs, hk⟩
    · have := Int.mul_le_mul_of_nonneg_left (show (1 : Int) ≤ s by omega) (show (0 : Int) ≤ 2000 by omega)
      simp at hk this; omega
    · have := Int.mul_le_mul_of_nonneg_left (show s ≤ (-1 : Int) by omega) (show (0 : Int) ≤ 2000 by omega)
      simp at hk this; omega
  · exact h
theorem numL_take (a b s : Int) (k : Nat) (h : k < cntL a b s) : (numL a b s).take (k+1) = (numL a b s).take k ++ [a + k * s] := by
  rw [List.take_succ_eq_append_getElem (by rw [numL_len]; exact h), numL_get]

set_option maxHeartbeats 3200000 in
theorem numbers_c (a b s : Int) (w : World) (h1 : -1000 ≤ a ∧ a ≤ 1000) (h2 : -1000 ≤ b ∧ b ≤ 1000) (h3 : -1000 ≤ s ∧ s ≤ 1000) (h4 : s ≠ 0) :
    Calls Try.prog 157 #[.agg #[.int .i64 a, .int .i64 b, .int .i64 s]] w (PInts w (numL a b s)) := by
  have hcl := cntL_le h1 h2 h4
  obtain ⟨h1a, h1b⟩ := h1
  obtain ⟨h2a, h2b⟩ := h2
  obtain ⟨h3a, h3b⟩ := h3
  have hst := Lib.hid (fun k : Nat => num_step (a := a) (b := b) h4 k)
  have hnl := Lib.hid (numL_len a b s)
  rcases Int.lt_or_lt_of_ne h4 with hs | hs
  · replace h4 := Lib.hid h4
    go_enter Try.func157, Try.ntmps157
    go_wp2_with fail
    go_loopw [3, 4] (fun v x wr => ∃ (k : Nat) (x0 : Int), k ≤ cntL a b s ∧ x = .int .i64 x0 ∧ Hid (x0 = a + k * s) ∧ OwnI wr (w.heap.size + 1) v ((numL a b s).take k) ∧
        wr.cell? ⟨w.heap.size, 0, none⟩ = some (.int .i64 a) ∧ wr.cell? ⟨w.heap.size, 1, none⟩ = some (.int .i64 b) ∧ wr.cell? ⟨w.heap.size, 2, none⟩ = some (.int .i64 s) ∧ Ext w wr ∧ w.heap.size < wr.heap.size)
      (fun _ x _ => (if 0 < s then b - intOf x else intOf x - b).toNat)
    case atStart =>
      refine ⟨0, a, Nat.zero_le _, rfl, Lib.hid (by simp), ?_, by simp, by simp, by simp, qXo, by simp; omega⟩
      simpa using OwnI.lit0 (w.alloc (.cells #[.int .i64 a, .int .i64 b, .int .i64 s] 139)) (w.heap.size + 1) (by simp)
    case round =>
      obtain ⟨k, x0, hk, rfl, hx0, ho, c0, c1, c2, hx, hz⟩ := hrel
      have hz2 : w.heap.size + 1 ≤ wr.heap.size := hz
      have hsk := hst.out k
      rw [← hx0.out] at hsk
      by_cases hlt : k < cntL a b s
      · have htk := Lib.hid (numL_take a b s k hlt)
        have hgo := hsk.2 hlt
        have hnext := Lib.hid (show x0 + s = a + ((k + 1 : Nat) : Int) * s by rw [hx0.out, Int.natCast_add, Int.add_mul]; omega)
        have g1 : b < x0 := by omega
        have g2 : x0 ≤ a := by rw [hx0.out]; have := Int.mul_nonneg (show (0 : Int) ≤ k by omega) (show (0 : Int) ≤ -s by omega); rw [Int.mul_neg] at this; omega
        have g3 : ¬ 0 < s := by omega
        have g4 : decide (0 < s) = false := by simpa using g3
        clear hsk hgo
        go_wp2_with (at_builtin; refine wpList_app rfl (.tmp 32) (.tmp 34) rfl rfl rfl (ho.ext ((Ext.refl _).alloc _)) (Ints.one _ 0 _ (Nat.zero_le _)) (by have := hnl.out; simp only [List.length_cons, List.length_nil, List.length_take]; omega) (by simp; omega) ?_)
        intro v' w3 ho3 _ hb3 _
        have hx3 := (hx.alloc (.cells #[.int .i64 x0] 3)).below hb3 (by omega)
        have d0 := below_cell hb3 (b := w.heap.size) (by omega) (((Ext.refl _).alloc (.cells #[.int .i64 x0] 3)).cell c0)
        have d1 := below_cell hb3 (b := w.heap.size) (by omega) (((Ext.refl _).alloc (.cells #[.int .i64 x0] 3)).cell c1)
        have d2 := below_cell hb3 (b := w.heap.size) (by omega) (((Ext.refl _).alloc (.cells #[.int .i64 x0] 3)).cell c2)
        have hz3 := hb3.size
        simp at hz3
        have hz4 : w.heap.size < w3.heap.size := by omega
        clear hb3 ho c0 c1 c2
        replace ho3 := Lib.hid ho3
        go_wp2_with fail
        go_roundw
        case rel => exact ⟨k+1, x0 + s, by omega, rfl, hnext, by rw [htk.out, ← hx0.out]; exact ho3.out, d0, d1, d2, hx3, hz4⟩
        case measure => simp [intOf]; first | (rw [if_pos hs, if_pos hs]; omega) | (rw [if_neg (by omega), if_neg (by omega)]; omega) | omega
      · obtain rfl : k = cntL a b s := by omega
        have hno : ¬ (0 < s ∧ x0 < b ∨ s < 0 ∧ b < x0) := fun h => hlt (hsk.1 h)
        have g1 : ¬ b < x0 := by omega
        have g3 : ¬ 0 < s := by omega
        have g4 : decide (0 < s) = false := by simpa using g3
        have g5 : decide (b < x0) = false := by simpa using g1
        clear hsk hno
        replace ho := Lib.hid ho
        go_wp2_with fail
        go_ret
        exact PInts.mk (by have := ho.out; rw [List.take_of_length_le (by rw [hnl.out]; omega)] at this; exact this) (Nat.le_succ _) (by rw [hnl.out]; omega) hx
  · replace h4 := Lib.hid h4
    go_enter Try.func157, Try.ntmps157
    go_wp2_with fail
    go_loopw [3, 4] (fun v x wr => ∃ (k : Nat) (x0 : Int), k ≤ cntL a b s ∧ x = .int .i64 x0 ∧ Hid (x0 = a + k * s) ∧ OwnI wr (w.heap.size + 1) v ((numL a b s).take k) ∧
        wr.cell? ⟨w.heap.size, 0, none⟩ = some (.int .i64 a) ∧ wr.cell? ⟨w.heap.size, 1, none⟩ = some (.int .i64 b) ∧ wr.cell? ⟨w.heap.size, 2, none⟩ = some (.int .i64 s) ∧ Ext w wr ∧ w.heap.size < wr.heap.size)
      (fun _ x _ => (if 0 < s then b - intOf x else intOf x - b).toNat)
    case atStart =>
      refine ⟨0, a, Nat.zero_le _, rfl, Lib.hid (by simp), ?_, by simp, by simp, by simp, qXo, by simp; omega⟩
      simpa using OwnI.lit0 (w.alloc (.cells #[.int .i64 a, .int .i64 b, .int .i64 s] 139)) (w.heap.size + 1) (by simp)
    case round =>
      obtain ⟨k, x0, hk, rfl, hx0, ho, c0, c1, c2, hx, hz⟩ := hrel
      have hz2 : w.heap.size + 1 ≤ wr.heap.size := hz
      have hsk := hst.out k
      rw [← hx0.out] at hsk
      by_cases hlt : k < cntL a b s
      · have htk := Lib.hid (numL_take a b s k hlt)
        have hgo := hsk.2 hlt
        have hnext := Lib.hid (show x0 + s = a + ((k + 1 : Nat) : Int) * s by rw [hx0.out, Int.natCast_add, Int.add_mul]; omega)
        have g1 : x0 < b := by omega
        have g2 : a ≤ x0 := by rw [hx0.out]; have := Int.mul_nonneg (show (0 : Int) ≤ k by omega) (show (0 : Int) ≤ s by omega); omega
        have g3 : ¬ s < 0 := by omega
        clear hsk hgo
        go_wp2_with (at_builtin; refine wpList_app rfl (.tmp 32) (.tmp 34) rfl rfl rfl (ho.ext ((Ext.refl _).alloc _)) (Ints.one _ 0 _ (Nat.zero_le _)) (by have := hnl.out; simp only [List.length_cons, List.length_nil, List.length_take]; omega) (by simp; omega) ?_)
        intro v' w3 ho3 _ hb3 _
        have hx3 := (hx.alloc (.cells #[.int .i64 x0] 3)).below hb3 (by omega)
        have d0 := below_cell hb3 (b := w.heap.size) (by omega) (((Ext.refl _).alloc (.cells #[.int .i64 x0] 3)).cell c0)
        have d1 := below_cell hb3 (b := w.heap.size) (by omega) (((Ext.refl _).alloc (.cells #[.int .i64 x0] 3)).cell c1)
        have d2 := below_cell hb3 (b := w.heap.size) (by omega) (((Ext.refl _).alloc (.cells #[.int .i64 x0] 3)).cell c2)
        have hz3 := hb3.size
        simp at hz3
        have hz4 : w.heap.size < w3.heap.size := by omega
        clear hb3 ho c0 c1 c2
        replace ho3 := Lib.hid ho3
        go_wp2_with fail
        go_roundw
        case rel => exact ⟨k+1, x0 + s, by omega, rfl, hnext, by rw [htk.out, ← hx0.out]; exact ho3.out, d0, d1, d2, hx3, hz4⟩
        case measure => simp [intOf]; first | (rw [if_pos hs, if_pos hs]; omega) | (rw [if_neg (by omega), if_neg (by omega)]; omega) | omega
      · obtain rfl : k = cntL a b s := by omega
        have hno : ¬ (0 < s ∧ x0 < b ∨ s < 0 ∧ b < x0) := fun h => hlt (hsk.1 h)
        have g1 : ¬ x0 < b := by omega
        have g3 : ¬ s < 0 := by omega
        have g4 : decide (s < 0) = false := by simpa using g3
        have g5 : decide (x0 < b) = false := by simpa using g1
        clear hsk hno
        replace ho := Lib.hid ho
        go_wp2_with fail
        go_ret
        exact PInts.mk (by have := ho.out; rw [List.take_of_length_le (by rw [hnl.out]; omega)] at this; exact this) (Nat.le_succ _) (by rw [hnl.out]; omega) hx


set_option maxHeartbeats 1600000 in
theorem reversed_c (xs : List Int) (v : Value) (w : World) (lo : Nat) (hv : Ints w lo v xs) :
    Calls Try.prog 128 #[v] w (PInts w xs.reverse) := by
  obtain ⟨a, cap, rfl, hlc, hcm, ⟨hlen, _⟩, hc⟩ := hv
  go_enter Try.func128, Try.ntmps128
  go_wp2_with fail
  go_loopw [3, 4] (fun v i wr => ∃ k : Nat, k ≤ xs.length ∧ i = .int .i64 ((k : Int) - 1) ∧ OwnI wr w.heap.size v (xs.drop k).reverse ∧ Ext w wr) (fun _ i _ => (intOf i + 1).toNat)
  case atStart => exact ⟨xs.length, Nat.le_refl _, by go_num, by simpa using OwnI.lit0 w w.heap.size (Nat.le_refl _), qXo⟩
  case round =>
    obtain ⟨k, hk, rfl, ho, hx⟩ := hrel
    have hz := hx.size
    cases k with
    | zero =>
      replace ho := Lib.hid ho
      clear hc
      go_wp2_with fail
      go_ret
      exact PInts.mk (by simpa using ho.out) (Nat.le_refl _) (by simpa using hlen) hx
    | succ m =>
      rw [show ((m + 1 : Nat) : Int) - 1 = (m : Int) by omega]
      obtain ⟨b, off, rfl, _, hcell0, _⟩ := hc m (by omega)
      have hcell := hx.cell hcell0
      have g : xs.getD m 0 = xs[m] := by simp [show m < xs.length by omega]
      rw [g] at hcell
      have hs := Lib.hid (show (xs.drop m).reverse = (xs.drop (m+1)).reverse ++ [xs[m]] by rw [List.drop_eq_getElem_cons (show m < xs.length by omega), List.reverse_cons])
      have hmI : (m : Int) < xs.length := by omega
      have hll := Lib.hid (show (xs.drop (m+1)).reverse.length + 1 ≤ xs.length by simp; omega)
      clear hc hcell0 g
      go_wp2_with (at_builtin; refine wpList_app rfl (.tmp 13) (.tmp 18) rfl rfl rfl (ho.ext ((Ext.refl _).alloc _)) (Ints.one _ 0 _ (Nat.zero_le _)) (by have := hll.out; simp only [List.length_cons, List.length_nil]; omega) (by simp; omega) ?_)
      intro v' w3 ho3 _ hb3 _
      have hx3 := (hx.alloc (.cells #[.int .i64 xs[m]] 3)).below hb3 (by omega)
      clear hb3 ho
      replace ho3 := Lib.hid ho3
      go_wp2_with fail
      go_roundw
      case rel => exact ⟨m, by omega, rfl, by rw [hs.out]; exact ho3.out, hx3⟩
      case measure => simp [intOf]

end Go.Proofs.Ytpgkhjmboiepcaa

/- Plain laws: products of extents, ranks of indices, other shapes of the same cells. -/
namespace Go.Proofs.Ytpgkhjmboiepcaa
open Go.RowKit
set_option linter.unusedVariables false

/-- the product of extents, unbounded -/
def prodL (xs : List Int) : Int := xs.foldr (· * ·) 1
theorem prodL_cons (x : Int) (xs : List Int) : prodL (x :: xs) = x * prodL xs := rfl
theorem prodL_append (xs ys : List Int) : prodL (xs ++ ys) = prodL xs * prodL ys := by
  induction xs with
  | nil => simp [prodL]
  | cons x xs ih => rw [List.cons_append, prodL_cons, ih, prodL_cons, Int.mul_assoc]
theorem prodL_pos {xs : List Int} (h : ∀ e ∈ xs, 1 ≤ e) : 1 ≤ prodL xs := by
  induction xs with
  | nil => simp [prodL]
  | cons x xs ih =>
    have h1 := h x (List.mem_cons_self ..)
    have h2 := ih (fun e he => h e (List.mem_cons_of_mem _ he))
    rw [prodL_cons]
    have := Int.mul_le_mul h1 h2 (by omega) (by omega)
    simpa using this
theorem prodL_nonneg {xs : List Int} (h : ∀ e ∈ xs, 0 ≤ e) : 0 ≤ prodL xs := by
  induction xs with
  | nil => simp [prodL]
  | cons x xs ih => rw [prodL_cons]; exact Int.mul_nonneg (h x (List.mem_cons_self ..)) (ih (fun e he => h e (List.mem_cons_of_mem _ he)))

/-- a few extents, none of them great -/
def Small (xs : List Int) : Prop := xs.length ≤ 4 ∧ ∀ e ∈ xs, 0 ≤ e ∧ e ≤ 60
theorem Small.of {xs : List Int} (h : shapeB xs = true) : Small xs := ⟨(shapeB_in h).1, (shapeB_in h).2.1⟩
theorem Small.drop {xs : List Int} (h : Small xs) (k : Nat) : Small (xs.drop k) := ⟨by have := h.1; simp; omega, fun e he => h.2 e (List.mem_of_mem_drop he)⟩
theorem Small.take {xs : List Int} (h : Small xs) (k : Nat) : Small (xs.take k) := ⟨by have := h.1; simp; omega, fun e he => h.2 e (List.mem_of_mem_take he)⟩
theorem Small.count {xs : List Int} (h : Small xs) : countL xs = prodL xs ∧ 0 ≤ countL xs ∧ countL xs ≤ 12960000 ∧ (0 < countL xs → ∀ e ∈ xs, 1 ≤ e) := by
  have := countL_zero_or h.1 h.2
  exact ⟨this.2.2.2, this.1, this.2.1, this.2.2.1⟩
theorem prodL_split (xs : List Int) (i : Nat) (h : i < xs.length) : prodL xs = prodL (xs.take i) * (xs[i] * prodL (xs.drop (i+1))) := by
  conv => lhs; rw [← List.take_append_drop i xs, prodL_append, List.drop_eq_getElem_cons h, prodL_cons]
/-- the rank of an index -/
def rankL (shape ix : List Int) : Int := (shape.zip ix).foldl (fun n p => wrap64 (wrap64 (n * p.1) + p.2)) 0
theorem rankL_take (shape ix : List Int) (k : Nat) (hk : k < shape.length) (hs : k < ix.length) :
    rankL (shape.take (k+1)) ix = wrap64 (wrap64 (rankL (shape.take k) ix * shape.getD k 0) + ix.getD k 0) := by
  unfold rankL
  have e : ∀ n : Nat, (shape.take n).zip ix = (shape.zip ix).take n := by
    intro n
    apply List.ext_getElem
    · simp <;> omega
    · intro i h1 h2; simp
  rw [e, e, List.take_succ_eq_append_getElem (by simp; omega), List.foldl_append]
  simp [hk, hs]
/-- the rank of an index, unbounded, from the last dimension on -/
def rankC : List Int → List Int → Int
  | e :: s, x :: r => x * prodL s + rankC s r
  | _, _ => 0
theorem rank_eq : ∀ (shape ix : List Int) (n : Int), shape.length = ix.length → 0 ≤ n → (∀ e ∈ shape, 0 ≤ e ∧ e ≤ 60) → (∀ x ∈ ix, 0 ≤ x ∧ x ≤ 60) → (n + 1) * 61 ^ shape.length ≤ 1000000000 →
    (shape.zip ix).foldl (fun n p => wrap64 (wrap64 (n * p.1) + p.2)) n = n * prodL shape + rankC shape ix
  | [], [], n, _, _, _, _, _ => by simp [prodL, rankC]
  | e :: s, x :: r, n, hl, h0, hs, hx, hb => by
    obtain ⟨e1, e2⟩ := hs e (List.mem_cons_self ..)
    obtain ⟨x1, x2⟩ := hx x (List.mem_cons_self ..)
    have p1 : (1 : Int) ≤ 61 ^ s.length := Int.pow_pos (by decide)
    have hb' : (n + 1) * 61 * 61 ^ s.length ≤ 1000000000 := by
      rw [List.length_cons, Int.pow_succ] at hb; rw [Int.mul_assoc, Int.mul_comm 61]; exact hb
    have m1 : n * e ≤ n * 60 := Int.mul_le_mul_of_nonneg_left e2 h0
    have m0 : 0 ≤ n * e := Int.mul_nonneg h0 e1
    have hn : (n + 1) * 61 ≤ 1000000000 := Int.le_trans (by
      have := Int.mul_le_mul_of_nonneg_left p1 (show 0 ≤ (n + 1) * 61 by omega)
      simpa using this) hb'
    have w1 : wrap64 (n * e) = n * e := IntWalk.wrap64_in _ ⟨by omega, by omega⟩
    have w2 : wrap64 (n * e + x) = n * e + x := IntWalk.wrap64_in _ ⟨by omega, by omega⟩
    rw [List.zip_cons_cons, List.foldl_cons]
    simp only [w1, w2]
    rw [rank_eq s r (n * e + x) (by simpa using hl) (by omega) (fun q hq => hs q (List.mem_cons_of_mem _ hq)) (fun q hq => hx q (List.mem_cons_of_mem _ hq)) ?_]
    · rw [prodL_cons, rankC, Int.add_mul, ← Int.mul_assoc, Int.add_assoc]
    · refine Int.le_trans (Int.mul_le_mul_of_nonneg_right (show n * e + x + 1 ≤ (n + 1) * 61 by omega) (by omega)) hb'
theorem rankL_eq {shape ix : List Int} (hl : shape.length = ix.length) (hs : Small shape) (hx : ∀ x ∈ ix, 0 ≤ x ∧ x ≤ 60) : rankL shape ix = rankC shape ix := by
  unfold rankL
  rw [rank_eq shape ix 0 hl (by omega) hs.2 hx ?_]
  · simp
  · have h4 : shape.length = 0 ∨ shape.length = 1 ∨ shape.length = 2 ∨ shape.length = 3 ∨ shape.length = 4 := by have := hs.1; omega
    rcases h4 with h | h | h | h | h <;> rw [h] <;> decide
end Go.Proofs.Ytpgkhjmboiepcaa

/- Walks towards SplitDim: dimensions, ranks. -/
namespace Go.Proofs.Ytpgkhjmboiepcaa
open Go.RowKit
set_option linter.unusedVariables false
set_option maxRecDepth 100000

set_option maxHeartbeats 1600000 in
theorem isDim_c (b1 : Int) (u1 v1 : Value) (s1 t1 : List Int) (i : Int) (w : World) (l1 m1 : Nat) (h1 : Ints w l1 u1 s1) (k1 : Ints w m1 v1 t1) (hl : s1.length ≤ 4) :
    Calls Try.prog 144 #[.agg #[.int .i64 b1, u1, v1], .int .i64 i] w (fun e w' => e = .returned (.bool (inB 0 ((s1.length : Int) - 1) i)) ∧ Ext w w') := by
  obtain ⟨a1, c1, rfl⟩ := h1.form
  have hw := Lib.hid (show wrap64 ((s1.length : Int) - 1) = (s1.length : Int) - 1 from IntWalk.wrap64_in _ ⟨by omega, by omega⟩)
  go_enter Try.func144, Try.ntmps144
  go_wp2_with (go_at_call 57; refine (inRange_c _ _ _ _).mono ?_; rintro e w' ⟨rfl, rfl⟩)
  go_ret
  exact ⟨rfl, qXo⟩

end Go.Proofs.Ytpgkhjmboiepcaa

/- A copy of a view by the reference. -/
namespace Go.Proofs.Ytpgkhjmboiepcaa
open Go.RowKit
set_option linter.unusedVariables false
set_option maxRecDepth 100000

set_option maxHeartbeats 1000000 in
theorem scopyView_c (base : Int) (sh st : Value) (shape strides : List Int) (w : World) (lo lo' : Nat) (hsh : Ints w lo sh shape) (hst : Ints w lo' st strides) :
    Calls Try.prog 96 #[.agg #[.int .i64 base, sh, st]] w (PView w base shape strides) := by
  have hl1 : shape.length ≤ 4194304 := by obtain ⟨_, _, _, _, _, ⟨h, _⟩, _⟩ := hsh; exact h
  have hl2 : strides.length ≤ 4194304 := by obtain ⟨_, _, _, _, _, ⟨h, _⟩, _⟩ := hst; exact h
  go_enter Try.func96, Try.ntmps96
  go_wp2_with fail
  have c0 : ((w.alloc (.cells #[.int .i64 base, sh, st] 25)).alloc (.cells #[.int .i64 0, .slice none 0 0, .slice none 0 0] 25)).cell? ⟨w.heap.size, 0, none⟩ = some (.int .i64 base) := by rw [World.cell?_alloc_lt _ _ _ (by simp)]; simp
  have c1 : ((w.alloc (.cells #[.int .i64 base, sh, st] 25)).alloc (.cells #[.int .i64 0, .slice none 0 0, .slice none 0 0] 25)).cell? ⟨w.heap.size, 1, none⟩ = some sh := by rw [World.cell?_alloc_lt _ _ _ (by simp)]; simp
  have c2 : ((w.alloc (.cells #[.int .i64 base, sh, st] 25)).alloc (.cells #[.int .i64 0, .slice none 0 0, .slice none 0 0] 25)).cell? ⟨w.heap.size, 2, none⟩ = some st := by rw [World.cell?_alloc_lt _ _ _ (by simp)]; simp
  have r0 : ∀ j : Nat, j < 3 → (∃ u, ((w.alloc (.cells #[.int .i64 base, sh, st] 25)).alloc (.cells #[.int .i64 0, .slice none 0 0, .slice none 0 0] 25)).cell? ⟨w.heap.size + 1, j, none⟩ = some u) ∧ ((w.alloc (.cells #[.int .i64 base, sh, st] 25)).alloc (.cells #[.int .i64 0, .slice none 0 0, .slice none 0 0] 25)).frozen? ⟨w.heap.size + 1, j, none⟩ = false := by
    intro j hj
    have e : w.heap.size + 1 = (w.alloc (.cells #[.int .i64 base, sh, st] 25)).heap.size := by simp
    rw [e]
    refine ⟨?_, by simp⟩
    rw [World.cell?_alloc_new]
    match j, hj with
    | 0, _ => exact ⟨_, rfl⟩
    | 1, _ => exact ⟨_, rfl⟩
    | 2, _ => exact ⟨_, rfl⟩
  have hx0 : Ext w ((w.alloc (.cells #[.int .i64 base, sh, st] 25)).alloc (.cells #[.int .i64 0, .slice none 0 0, .slice none 0 0] 25)) := ((Ext.refl _).alloc _).alloc _
  have hz0 : w.heap.size + 2 ≤ ((w.alloc (.cells #[.int .i64 base, sh, st] 25)).alloc (.cells #[.int .i64 0, .slice none 0 0, .slice none 0 0] 25)).heap.size := by simp
  revert c0 c1 c2 r0 hx0 hz0
  generalize (w.alloc (.cells #[.int .i64 base, sh, st] 25)).alloc (.cells #[.int .i64 0, .slice none 0 0, .slice none 0 0] 25) = w0
  intro c0 c1 c2 r0 hx0 hz0
  obtain ⟨⟨ua, ra⟩, fa⟩ := r0 0 (by omega)
  obtain ⟨⟨ub, rb⟩, fb⟩ := r0 1 (by omega)
  obtain ⟨⟨uc, rc⟩, fc⟩ := r0 2 (by omega)
  clear r0
  have hz1 : w.heap.size + 1 < w0.heap.size := by omega
  have hz2 : w.heap.size < w0.heap.size := by omega
  go_region_held3 (fun w' => w'.cell? ⟨w.heap.size, 0, none⟩ = some (.int .i64 base) ∧ w'.cell? ⟨w.heap.size, 1, none⟩ = some sh ∧ w'.cell? ⟨w.heap.size, 2, none⟩ = some st)
    (first
      | go_keep
      | exact ⟨X1.cell c0, X1.cell c1, X1.cell c2⟩
      | exact ⟨X2.cell c0, X2.cell c1, X2.cell c2⟩)
    (first
      | (go_at_call 42; refine (copyInts_c shape _ _ lo (hsh.ext (hx0.trans qXo))).mono ?_; rintro e w1 ⟨v1, rfl, hi1, ho1, hx1⟩; obtain ⟨p1, q1, s1, rfl⟩ := ho1.form; have X1 : Ext w0 w1 := Ext.trans qXo hx1; have R1 := X1.rule; have F1 := X1.frule)
      | (go_at_call 42; refine (copyInts_c strides _ _ lo' (hst.ext (hx0.trans qXo))).mono ?_; rintro e w2 ⟨v2, rfl, hi2, ho2, hx2⟩; obtain ⟨p2, q2, s2, rfl⟩ := ho2.form; have X2 : Ext w0 w2 := Ext.trans qXo hx2; have R2 := X2.rule; have F2 := X2.frule))
  all_goals
    go_wp2_with fail
    refine bodyPost_ret (v := .agg #[.int .i64 base, .slice p1 q1 s1, .slice p2 q2 s2]) (by simp only [results, Try.results96]; go_simp) rfl ?_
    refine copy_close hx0 X1 (ho1.lower (by simp <;> omega)) (Ext.trans (by repeat (first | exact Ext.refl _ | apply Ext.drew | apply Ext.alloc)) hx2) (ho2.lower (by simp <;> omega)) hz1 hl1 hl2 _ _ _ rfl rfl rfl _ _ _

end Go.Proofs.Ytpgkhjmboiepcaa

/- Walks: a view that the reference hands back, with a bool. -/
namespace Go.Proofs.Ytpgkhjmboiepcaa
open Go.RowKit
set_option linter.unusedVariables false
set_option maxRecDepth 100000

/-- a call hands back a new view and a bool -/
def PViewB (w : World) (base : Int) (shape strides : List Int) (b : Bool) (e : Ending) (w' : World) : Prop :=
  ∃ sh st, e = .returned (.tuple #[.agg #[.int .i64 base, sh, st], .bool b]) ∧ Ints w' w.heap.size sh shape ∧ Ints w' w.heap.size st strides ∧ OwnZ w' w.heap.size sh shape ∧ OwnZ w' w.heap.size st strides ∧
    (shape ≠ [] → strides ≠ [] → sh.ownBlock ≠ st.ownBlock) ∧ Ext w w'
theorem PViewB.no {w w' : World} (h : Ext w w') : PViewB w 0 [] [] false (.returned (.tuple #[.agg #[.int .i64 0, .slice none 0 0, .slice none 0 0], .bool false])) w' :=
  ⟨_, _, rfl, Ints.nil _ _ _ _ (by simp) (fun _ => rfl), Ints.nil _ _ _ _ (by simp) (fun _ => rfl), .inl ⟨rfl, none, 0, rfl, by simp, fun _ => rfl⟩, .inl ⟨rfl, none, 0, rfl, by simp, fun _ => rfl⟩, fun h => absurd rfl h, h⟩

theorem PViewB.put {w w1 w2 : World} {base : Int} {shape strides : List Int} {v1 v2 : Value} {a b c : Addr} {u v x : Value} {g : Nat} (l1 : shape.length ≤ 4194304) (l2 : strides.length ≤ 4194304) (o1 : OwnZ w2 w1.heap.size v1 shape) (o2 : OwnZ w2 w1.heap.size v2 strides)
    (od : shape ≠ [] → strides ≠ [] → v1.ownBlock ≠ v2.ownBlock) (hz : w.heap.size ≤ w1.heap.size ∧ g < w1.heap.size) (ha : a.block = g) (hb : b.block = g) (hc : c.block = g) (hx : Ext w (((w2.setCell a u).setCell b v).setCell c x)) :
    PViewB w base shape strides true (.returned (.tuple #[.agg #[.int .i64 base, v1, v2], .bool true])) (((w2.setCell a u).setCell b v).setCell c x) := by
  have o1' := ((o1.setCell_below (a := a) (by omega) u).setCell_below (a := b) (by omega) v).setCell_below (a := c) (by omega) x
  have o2' := ((o2.setCell_below (a := a) (by omega) u).setCell_below (a := b) (by omega) v).setCell_below (a := c) (by omega) x
  exact ⟨v1, v2, rfl, (o1'.lower hz.1).ints l1, (o2'.lower hz.1).ints l2, o1'.lower hz.1, o2'.lower hz.1, od, hx⟩
theorem ints_len {w : World} {lo : Nat} {v : Value} {xs : List Int} (h : Ints w lo v xs) : xs.length ≤ 4194304 := by obtain ⟨_, _, _, _, _, ⟨h, _⟩, _⟩ := h; exact h

set_option maxHeartbeats 1600000 in
theorem made_0 (b1 : Int) (u1 v1 : Value) (s1 t1 : List Int) (w : World) (l1 m1 : Nat) (h1 : Ints w l1 u1 s1) (k1 : Ints w m1 v1 t1) (ha : viewB b1 s1 t1 = false) :
    Calls Try.prog 59 #[.agg #[.int .i64 b1, u1, v1]] w (PViewB w 0 [] [] false) := by
  go_enter Try.func59, Try.ntmps59
  go_wp2_with fail
  refine (validView_c b1 _ _ s1 t1 _ l1 m1 (h1.ext qXo) (k1.ext qXo)).mono ?_
  rintro e w1 ⟨rfl, xw1⟩
  have Lw1 : Ext w w1 := Ext.trans qXo xw1
  have Xw1 : Ext w w1 := Lw1
  have c10 : w1.cell? ⟨w.heap.size, 0, none⟩ = some (.int .i64 b1) := xw1.cell qCl
  have c11 : w1.cell? ⟨w.heap.size, 1, none⟩ = some (u1) := xw1.cell qCl
  have c12 : w1.cell? ⟨w.heap.size, 2, none⟩ = some (v1) := xw1.cell qCl
  have q0 : w1.cell? ⟨w.heap.size + 1, 0, none⟩ = some (.int .i64 0) := xw1.cell qCl
  have q1 : w1.cell? ⟨w.heap.size + 1, 1, none⟩ = some (.slice none 0 0) := xw1.cell qCl
  have q2 : w1.cell? ⟨w.heap.size + 1, 2, none⟩ = some (.slice none 0 0) := xw1.cell qCl
  have zr : w.heap.size + 1 < w1.heap.size := qB q0
  have p0 : w1.frozen? ⟨w.heap.size + 1, 0, none⟩ = false := xw1.frz (by simp <;> omega) qFz
  have p1 : w1.frozen? ⟨w.heap.size + 1, 1, none⟩ = false := xw1.frz (by simp <;> omega) qFz
  have p2 : w1.frozen? ⟨w.heap.size + 1, 2, none⟩ = false := xw1.frz (by simp <;> omega) qFz
  have z1 : w.heap.size < w1.heap.size := qB c10
  have sw1 : w.heap.size ≤ w1.heap.size := Lw1.size
  rw [ha]
  go_wp2_with fail
  refine bodyPost_ret (v := .tuple #[.agg #[.int .i64 0, .slice none 0 0, .slice none 0 0], .bool false]) (by simp only [results, Try.results59]; go_simp) rfl ?_
  exact PViewB.no (by repeat (first | exact Ext.refl _ | assumption | apply Ext.drewN | apply Ext.drew | apply Ext.alloc | (refine Ext.setCell ?_ (by simp) _)))

set_option maxHeartbeats 1600000 in
theorem made_1 (b1 : Int) (u1 v1 : Value) (s1 t1 : List Int) (w : World) (l1 m1 : Nat) (h1 : Ints w l1 u1 s1) (k1 : Ints w m1 v1 t1) (ha : viewB b1 s1 t1 = true) :
    Calls Try.prog 59 #[.agg #[.int .i64 b1, u1, v1]] w (PViewB w b1 s1 t1 true) := by
  go_enter Try.func59, Try.ntmps59
  go_wp2_with fail
  refine (validView_c b1 _ _ s1 t1 _ l1 m1 (h1.ext qXo) (k1.ext qXo)).mono ?_
  rintro e w1 ⟨rfl, xw1⟩
  have Lw1 : Ext w w1 := Ext.trans qXo xw1
  have Xw1 : Ext w w1 := Lw1
  have c10 : w1.cell? ⟨w.heap.size, 0, none⟩ = some (.int .i64 b1) := xw1.cell qCl
  have c11 : w1.cell? ⟨w.heap.size, 1, none⟩ = some (u1) := xw1.cell qCl
  have c12 : w1.cell? ⟨w.heap.size, 2, none⟩ = some (v1) := xw1.cell qCl
  have q0 : w1.cell? ⟨w.heap.size + 1, 0, none⟩ = some (.int .i64 0) := xw1.cell qCl
  have q1 : w1.cell? ⟨w.heap.size + 1, 1, none⟩ = some (.slice none 0 0) := xw1.cell qCl
  have q2 : w1.cell? ⟨w.heap.size + 1, 2, none⟩ = some (.slice none 0 0) := xw1.cell qCl
  have zr : w.heap.size + 1 < w1.heap.size := qB q0
  have p0 : w1.frozen? ⟨w.heap.size + 1, 0, none⟩ = false := xw1.frz (by simp <;> omega) qFz
  have p1 : w1.frozen? ⟨w.heap.size + 1, 1, none⟩ = false := xw1.frz (by simp <;> omega) qFz
  have p2 : w1.frozen? ⟨w.heap.size + 1, 2, none⟩ = false := xw1.frz (by simp <;> omega) qFz
  have z1 : w.heap.size < w1.heap.size := qB c10
  have sw1 : w.heap.size ≤ w1.heap.size := Lw1.size
  rw [ha]
  have zk := zr
  go_wp2_with fail
  refine (scopyView_c b1 _ _ s1 t1 _ l1 m1 (h1.ext (Xw1.trans qXo)) (k1.ext (Xw1.trans qXo))).mono ?_
  rintro e w2 ⟨x1, x2, rfl, i1, i2, o1, o2, od, xw2⟩
  have hl1 := ints_len i1
  have hl2 := ints_len i2
  obtain ⟨y1, n1, rfl⟩ := i1.form
  obtain ⟨y2, n2, rfl⟩ := i2.form
  have Lw2 : Ext w1 w2 := Ext.trans qXo xw2
  have Xw2 : Ext w w2 := Xw1.trans Lw2
  replace c10 := Lw2.cell c10
  replace c11 := Lw2.cell c11
  replace c12 := Lw2.cell c12
  replace q0 := Lw2.cell q0
  replace p0 := Lw2.frz zr p0
  replace q1 := Lw2.cell q1
  replace p1 := Lw2.frz zr p1
  replace q2 := Lw2.cell q2
  replace p2 := Lw2.frz zr p2
  replace zr := Nat.lt_of_lt_of_le zr Lw2.size
  have z2 : w.heap.size < w2.heap.size := qB c10
  have sw2 : w1.heap.size ≤ w2.heap.size := Lw2.size
  go_wp2_with fail
  refine bodyPost_ret (v := .tuple #[.agg #[.int .i64 b1, .slice y1 s1.length n1, .slice y2 t1.length n2], .bool true]) (by simp only [results, Try.results59]; go_simp) rfl ?_
  exact PViewB.put (g := w.heap.size + 1) hl1 hl2 o1 o2 od (by constructor <;> (try simp) <;> omega) rfl rfl rfl (by repeat (first | exact Ext.refl _ | assumption | apply Ext.drewN | apply Ext.drew | apply Ext.alloc | (refine Ext.setCell ?_ (by simp) _)))

end Go.Proofs.Ytpgkhjmboiepcaa

/- Walks: strides by rows and numbers in order, of the reference; orders of dimensions. -/
namespace Go.Proofs.Ytpgkhjmboiepcaa
open Go.RowKit
set_option linter.unusedVariables false
set_option maxRecDepth 100000

/-- the strides by rows -/
def rowS : List Int → List Int
  | [] => []
  | _ :: s => prodL s :: rowS s
theorem rowS_len : ∀ s : List Int, (rowS s).length = s.length
  | [] => rfl
  | _ :: s => by rw [rowS, List.length_cons, List.length_cons, rowS_len s]
theorem rowS_drop (s : List Int) (j : Nat) (h : j < s.length) : rowS (s.drop j) = prodL (s.drop (j+1)) :: rowS (s.drop (j+1)) := by
  rw [List.drop_eq_getElem_cons h]; rfl
theorem prodL_drop (s : List Int) (j : Nat) (h : j < s.length) : prodL (s.drop j) = s.getD j 0 * prodL (s.drop (j+1)) := by
  rw [List.drop_eq_getElem_cons h, prodL_cons]; simp [h]

theorem mul_bd2 {x p : Int} (h0 : 0 ≤ x) (h1 : x ≤ 60) (p0 : 0 ≤ p) (p1 : p ≤ 12960000) : 0 ≤ p * x ∧ p * x ≤ 777600000 := by
  have a1 := Int.mul_le_mul p1 h1 h0 (by omega)
  have a2 := Int.mul_nonneg p0 h0
  omega

set_option maxHeartbeats 800000 in
theorem supTo_c (n : Nat) (w : World) (hn : n ≤ 1000) :
    Calls Try.prog 129 #[.int .i64 (n : Int)] w (PInts w (upL n)) := by
  go_enter Try.func129, Try.ntmps129
  go_wp2_with fail
  go_loopw [3, 4] (fun v i wr => ∃ k : Nat, k ≤ n ∧ i = .int .i64 k ∧ OwnI wr w.heap.size v (upL k) ∧ Ext w wr) (fun _ i _ => n - (intOf i).toNat)
  case atStart => exact ⟨0, Nat.zero_le _, rfl, OwnI.lit0 w w.heap.size (Nat.le_refl _), qXo⟩
  case round =>
    obtain ⟨k, hk, rfl, ho, hx⟩ := hrel
    have hz := hx.size
    have hl : (upL k).length = k := by simp [upL]
    by_cases hlt : k < n
    · have hI : (k : Int) < n := by omega
      have hs := Lib.hid (upL_succ k)
      go_wp2_with (at_builtin; refine wpList_app rfl (.tmp 11) (.tmp 13) rfl rfl rfl (ho.ext ((Ext.refl _).alloc _)) (Ints.one _ 0 _ (Nat.zero_le _)) (by simp only [List.length_cons, List.length_nil]; omega) (by simp; omega) ?_)
      intro v' w3 ho3 _ hb3 _
      have hx3 := (hx.alloc (.cells #[.int .i64 (k : Int)] 3)).below hb3 (by omega)
      clear hb3 ho
      replace ho3 := Lib.hid ho3
      go_wp2_with fail
      go_roundw
      case rel => exact ⟨k+1, by omega, by go_num, by rw [hs.out]; exact ho3.out, hx3⟩
      case measure => simp [intOf]; omega
    · obtain rfl : k = n := by omega
      replace ho := Lib.hid ho
      go_wp2_with fail
      go_ret
      exact PInts.mk ho.out (Nat.le_refl _) (by omega) hx

def orderB (xs : List Int) (n : Int) : Bool := decide ((xs.length : Int) = n) && (xs.all (inB 0 (n - 1)) && decide xs.Nodup)
set_option maxHeartbeats 800000 in
theorem validOrder_c (xs : List Int) (v : Value) (n : Int) (w : World) (lo : Nat) (hv : Ints w lo v xs) (hn : 0 ≤ n ∧ n ≤ 1000) :
    Calls Try.prog 147 #[v, .int .i64 n] w fun e w' => e = .returned (.bool (orderB xs n)) ∧ Ext w w' := by
  have hv0 := Lib.hid hv
  obtain ⟨a, cap, rfl⟩ := hv.form
  obtain ⟨n0, n1⟩ := hn
  by_cases h1 : (xs.length : Int) = n
  · subst h1
    cases h2 : xs.all (inB 0 ((xs.length : Int) - 1))
    · have hr := Lib.hid (show orderB xs (xs.length : Int) = false by unfold orderB; rw [h2]; simp)
      go_enter Try.func147, Try.ntmps147
      go_wp2_with (go_at_call 73; refine (allIn_c xs _ _ _ _ lo hv0.out).mono ?_; rintro e w' ⟨rfl, rfl⟩)
      go_ret
      exact ⟨by rw [hr.out] <;> rfl, qXo⟩
    · have hr := Lib.hid (show orderB xs (xs.length : Int) = decide xs.Nodup by unfold orderB; rw [h2]; simp)
      go_enter Try.func147, Try.ntmps147
      go_wp2_with (go_at_call 73; refine (allIn_c xs _ _ _ _ lo hv0.out).mono ?_; rintro e w' ⟨rfl, rfl⟩)
      refine (different_c xs _ _ lo hv0.out).mono ?_
      rintro e w1 ⟨rfl, x1⟩
      go_wp2_with fail
      go_ret
      exact ⟨by rw [hr.out] <;> rfl, x1⟩
  · have h1' : ((xs.length : Int) == n) = false := by simpa using h1
    have hr := Lib.hid (show orderB xs n = false by unfold orderB; rw [decide_eq_false h1]; rfl)
    go_enter Try.func147, Try.ntmps147
    go_wp2_with fail
    go_ret
    exact ⟨by rw [hr.out] <;> rfl, qXo⟩

end Go.Proofs.Ytpgkhjmboiepcaa

/- Walks: new views of the reference, tidy views. -/
namespace Go.Proofs.Ytpgkhjmboiepcaa
open Go.RowKit
set_option linter.unusedVariables false
set_option maxRecDepth 100000

/-- the strides of a new view -/
def newT (s : List Int) : List Int := if shapeB s then (if countL s = 0 then List.replicate s.length 0 else rowS s) else []
def newS (s : List Int) : List Int := if shapeB s then s else []
theorem PView.no {w w' : World} (h : Ext w w') : PView w 0 [] [] (.returned (.agg #[.int .i64 0, .slice none 0 0, .slice none 0 0])) w' :=
  ⟨_, _, rfl, Ints.nil _ _ _ _ (by simp) (fun _ => rfl), Ints.nil _ _ _ _ (by simp) (fun _ => rfl), .inl ⟨rfl, none, 0, rfl, by simp, fun _ => rfl⟩, .inl ⟨rfl, none, 0, rfl, by simp, fun _ => rfl⟩, fun h => absurd rfl h, h⟩
theorem PView.two {w w' : World} {base : Int} {shape strides : List Int} {v1 v2 : Value} {b1 b2 m : Nat} (o1 : OwnZ w' b1 v1 shape) (o2 : OwnZ w' b2 v2 strides) (h1 : w.heap.size ≤ b1) (h2 : w.heap.size ≤ b2)
    (hd : (shape ≠ [] → ∀ g, v1.ownBlock = some g → g < m) ∧ m ≤ b2 ∨ (strides ≠ [] → ∀ g, v2.ownBlock = some g → g < m) ∧ m ≤ b1) (l1 : shape.length ≤ 4194304) (l2 : strides.length ≤ 4194304) (hx : Ext w w') : PView w base shape strides (.returned (.agg #[.int .i64 base, v1, v2])) w' := by
  refine ⟨v1, v2, rfl, (o1.lower h1).ints l1, (o2.lower h2).ints l2, o1.lower h1, o2.lower h2, fun n1 n2 => ?_, hx⟩
  obtain ⟨g1, e1, t1, _⟩ := o1.lt n1
  obtain ⟨g2, e2, t2, _⟩ := o2.lt n2
  rw [e1, e2]
  rcases hd with ⟨hd, hm⟩ | ⟨hd, hm⟩
  · have := hd n1 g1 e1; simp; omega
  · have := hd n2 g2 e2; simp; omega

theorem Chg.three {lo : Nat} (w : World) (x y z : Value) : Chg lo (lo + 1) w (((w.setCell ⟨lo, 0, none⟩ x).setCell ⟨lo, 1, none⟩ y).setCell ⟨lo, 2, none⟩ z) :=
  (((Chg.refl lo (lo + 1) w).setCell (p := ⟨lo, 0, none⟩) (Nat.le_refl _) (Nat.lt_succ_self _) _).setCell (p := ⟨lo, 1, none⟩) (Nat.le_refl _) (Nat.lt_succ_self _) _).setCell (p := ⟨lo, 2, none⟩) (Nat.le_refl _) (Nat.lt_succ_self _) _

end Go.Proofs.Ytpgkhjmboiepcaa

/- Walks: tidy views, a number put into a list (of the reference). -/
namespace Go.Proofs.Ytpgkhjmboiepcaa
open Go.RowKit
set_option linter.unusedVariables false
set_option maxRecDepth 100000

/-- base and strides of a tidy view -/
def tidyB (b : Int) (s : List Int) : Int := if countL s = 0 then 0 else b
def tidyT (s t : List Int) : List Int := if countL s = 0 then List.replicate s.length 0 else t

set_option maxHeartbeats 1600000 in
theorem tidy_0 (b1 : Int) (u1 v1 : Value) (s1 : List Int) (w : World) (l1 : Nat) (h1 : Ints w l1 u1 s1) (hc : countL s1 = 0) :
    Calls Try.prog 158 #[.agg #[.int .i64 b1, u1, v1]] w (fun e w' => ∃ st, e = .returned (.agg #[.int .i64 0, u1, st]) ∧ OwnI w' w.heap.size st (List.replicate s1.length 0) ∧ Ext w w') := by
  obtain ⟨a1, c1, rfl⟩ := h1.form
  have hlen : s1.length ≤ 4194304 := by obtain ⟨_, _, _, _, _, ⟨h, _⟩, _⟩ := h1; exact h
  have hmk := mk_ints s1.length hlen
  go_enter Try.func158, Try.ntmps158
  go_wp2_with (go_at_call 111; refine (count_c s1 _ _ l1 (h1.ext qXo)).mono ?_; rintro e w' ⟨rfl, rfl⟩)
  have hx0 : Ext w ((w.alloc (.cells #[.int .i64 b1, .slice a1 s1.length c1, v1] 25)).alloc (.cells #[.int .i64 0, .slice none 0 0, .slice none 0 0] 25)) := ((Ext.refl _).alloc _).alloc _
  have c11 : ((w.alloc (.cells #[.int .i64 b1, .slice a1 s1.length c1, v1] 25)).alloc (.cells #[.int .i64 0, .slice none 0 0, .slice none 0 0] 25)).cell? ⟨w.heap.size, 1, none⟩ = some (.slice a1 s1.length c1) := by rw [World.cell?_alloc_lt _ _ _ (by simp)]; simp
  have k0 : ((w.alloc (.cells #[.int .i64 b1, .slice a1 s1.length c1, v1] 25)).alloc (.cells #[.int .i64 0, .slice none 0 0, .slice none 0 0] 25)).cell? ⟨w.heap.size + 1, 0, none⟩ = some (.int .i64 0) := by go_simp
  have k1 : ((w.alloc (.cells #[.int .i64 b1, .slice a1 s1.length c1, v1] 25)).alloc (.cells #[.int .i64 0, .slice none 0 0, .slice none 0 0] 25)).cell? ⟨w.heap.size + 1, 1, none⟩ = some (.slice none 0 0) := by go_simp
  have k2 : ((w.alloc (.cells #[.int .i64 b1, .slice a1 s1.length c1, v1] 25)).alloc (.cells #[.int .i64 0, .slice none 0 0, .slice none 0 0] 25)).cell? ⟨w.heap.size + 1, 2, none⟩ = some (.slice none 0 0) := by go_simp
  have f0 : ((w.alloc (.cells #[.int .i64 b1, .slice a1 s1.length c1, v1] 25)).alloc (.cells #[.int .i64 0, .slice none 0 0, .slice none 0 0] 25)).frozen? ⟨w.heap.size + 1, 0, none⟩ = false := by go_simp
  have f1 : ((w.alloc (.cells #[.int .i64 b1, .slice a1 s1.length c1, v1] 25)).alloc (.cells #[.int .i64 0, .slice none 0 0, .slice none 0 0] 25)).frozen? ⟨w.heap.size + 1, 1, none⟩ = false := by go_simp
  have f2 : ((w.alloc (.cells #[.int .i64 b1, .slice a1 s1.length c1, v1] 25)).alloc (.cells #[.int .i64 0, .slice none 0 0, .slice none 0 0] 25)).frozen? ⟨w.heap.size + 1, 2, none⟩ = false := by go_simp
  have z0 : w.heap.size + 1 < ((w.alloc (.cells #[.int .i64 b1, .slice a1 s1.length c1, v1] 25)).alloc (.cells #[.int .i64 0, .slice none 0 0, .slice none 0 0] 25)).heap.size := by simp
  revert hx0 c11 k0 k1 k2 f0 f1 f2 z0
  generalize (w.alloc (.cells #[.int .i64 b1, .slice a1 s1.length c1, v1] 25)).alloc (.cells #[.int .i64 0, .slice none 0 0, .slice none 0 0] 25) = w0
  intro hx0 c11 k0 k1 k2 f0 f1 f2 z0
  go_region_held3 (fun w' => w'.cell? ⟨w.heap.size, 1, none⟩ = some (.slice a1 s1.length c1)) (go_keep) (fail)
  go_wp2_with fail
  refine bodyPost_ret (v := .agg #[.int .i64 0, .slice a1 s1.length c1, .slice (some ⟨w0.heap.size, 0, none⟩) s1.length s1.length]) (by simp only [results, Try.results158]; go_simp) rfl ?_
  refine ⟨_, rfl, ?_, ?_⟩
  · have ho2 := fun x y z => (OwnI.made (((w0.setCell ⟨w.heap.size + 1, 0, none⟩ x).setCell ⟨w.heap.size + 1, 1, none⟩ y).setCell ⟨w.heap.size + 1, 2, none⟩ z) w.heap.size s1.length (by simp; omega) hlen)
    simp only [World.size_setCell] at ho2
    first | exact ho2 _ _ _ | exact (ho2 _ _ _).ext (Ext.drew (Ext.refl _))
  · exact qXt

/-- the number of indices of a view with cells stays -/
theorem tidy_1 (b1 : Int) (u1 v1 : Value) (s1 t1 : List Int) (w : World) (l1 m1 : Nat) (h1 : Ints w l1 u1 s1) (k1 : Ints w m1 v1 t1) (hc : countL s1 ≠ 0) :
    Calls Try.prog 158 #[.agg #[.int .i64 b1, u1, v1]] w (fun e w' => e = .returned (.agg #[.int .i64 b1, u1, v1]) ∧ Ext w w') := by
  obtain ⟨a1, c1, rfl⟩ := h1.form
  obtain ⟨a2, c2, rfl⟩ := k1.form
  have hc1 : (countL s1 == 0) = false := by simpa using hc
  have hc2 : decide (countL s1 = 0) = false := by simpa using hc
  go_enter Try.func158, Try.ntmps158
  go_wp2_with (go_at_call 111; refine (count_c s1 _ _ l1 (h1.ext qXo)).mono ?_; rintro e w' ⟨rfl, rfl⟩)
  refine bodyPost_ret (v := .agg #[.int .i64 b1, .slice a1 s1.length c1, .slice a2 t1.length c2]) (by simp only [results, Try.results158]; go_simp) rfl ?_
  exact ⟨rfl, qXo⟩

end Go.Proofs.Ytpgkhjmboiepcaa

/- Plain laws on views: indices in order, the cells of indices, ranks. -/
namespace Go.Proofs.Ytpgkhjmboiepcaa
open Go.RowKit
set_option linter.unusedVariables false
set_option maxRecDepth 100000

/-- the cell of an index, unbounded -/
def dotC (b : Int) : List Int → List Int → Int
  | x :: xs, t :: ts => x * t + dotC b xs ts
  | _, _ => b
theorem dotC_add : ∀ (b c : Int) (xs ts : List Int), dotC (b + c) xs ts = dotC b xs ts + c
  | b, c, [], ts => by cases ts <;> rfl
  | b, c, x :: xs, [] => rfl
  | b, c, x :: xs, t :: ts => by simp only [dotC]; rw [dotC_add b c xs ts]; omega
theorem mul_bd {x t M : Int} (h0 : 0 ≤ x) (h1 : x ≤ 60) (hM : 0 ≤ M) (h2 : -M ≤ t) (h3 : t ≤ M) : -(60 * M) ≤ x * t ∧ x * t ≤ 60 * M := by
  have a1 := Int.mul_le_mul_of_nonneg_left h3 h0
  have a2 := Int.mul_le_mul_of_nonneg_left h2 h0
  have a3 := Int.mul_le_mul_of_nonneg_right h1 hM
  rw [Int.mul_neg] at a2
  omega
theorem dot_eq (xs : List Int) : ∀ (ts : List Int) (a : Int), (∀ x ∈ xs, 0 ≤ x ∧ x ≤ 60) → (∀ t ∈ ts, -1000000 ≤ t ∧ t ≤ 1000000) → -(1000000000 - 60000000 * (xs.length : Int)) ≤ a → a ≤ 1000000000 - 60000000 * (xs.length : Int) →
    (xs.zip ts).foldl (fun a p => wrap64 (a + wrap64 (p.1 * p.2))) a = dotC a xs ts := by
  induction xs with
  | nil => intro ts a _ _ _ _; cases ts <;> rfl
  | cons x xs ih =>
    intro ts a hx ht h1 h2
    cases ts with
    | nil => rfl
    | cons t ts =>
      obtain ⟨x0, x1⟩ := hx x (List.mem_cons_self ..)
      obtain ⟨t0, t1⟩ := ht t (List.mem_cons_self ..)
      have hb := mul_bd x0 x1 (show (0 : Int) ≤ 1000000 by omega) t0 t1
      rw [List.length_cons] at h1 h2
      have hl : ((xs.length + 1 : Nat) : Int) = (xs.length : Int) + 1 := by omega
      rw [hl] at h1 h2
      have h0 : (0 : Int) ≤ (xs.length : Int) := by omega
      generalize (xs.length : Int) = L at *
      have w1 : wrap64 (x * t) = x * t := IntWalk.wrap64_in _ ⟨by omega, by omega⟩
      have w2 : wrap64 (a + x * t) = a + x * t := IntWalk.wrap64_in _ ⟨by omega, by omega⟩
      rw [List.zip_cons_cons, List.foldl_cons]
      simp only [w1, w2]
      rw [ih ts (a + x * t) (fun q hq => hx q (List.mem_cons_of_mem _ hq)) (fun q hq => ht q (List.mem_cons_of_mem _ hq)) (by omega) (by omega), dotC_add, dotC]
      omega
/-- strides and a base that are not great -/
def Mild (b : Int) (ts : List Int) : Prop := (-700000000 ≤ b ∧ b ≤ 700000000) ∧ ∀ t ∈ ts, -1000000 ≤ t ∧ t ≤ 1000000
theorem dotL_eq {b : Int} {xs ts : List Int} (hl : xs.length ≤ 4) (hx : ∀ x ∈ xs, 0 ≤ x ∧ x ≤ 60) (hm : Mild b ts) : dotL b xs ts = dotC b xs ts :=
  dot_eq xs ts b hx hm.2 (by have := hm.1; omega) (by have := hm.1; omega)

theorem unrL_cons (e : Int) (s : List Int) (k : Int) : unrL (e :: s) k = ((unrL s k).2 % e :: (unrL s k).1, (unrL s k).2 / e) := rfl
theorem unr_split : ∀ (s : List Int), (∀ e ∈ s, 1 ≤ e) → ∀ i j : Int, 0 ≤ j → j < prodL s → unrL s (i * prodL s + j) = ((unrL s j).1, i)
  | [], _, i, j, h0, h1 => by
    simp [prodL] at h1
    have : j = 0 := by omega
    subst this
    simp [unrL, prodL]
  | e :: s, hp, i, j, h0, h1 => by
    have he := hp e (List.mem_cons_self ..)
    have hs := fun q hq => hp q (List.mem_cons_of_mem e hq)
    have hP := prodL_pos hs
    rw [prodL_cons] at h1 ⊢
    have d1 := Int.mul_ediv_add_emod j (prodL s)
    have d2 := Int.emod_nonneg j (show prodL s ≠ 0 by omega)
    have d3 := Int.emod_lt_of_pos j (show 0 < prodL s by omega)
    have d4 : 0 ≤ j / prodL s := Int.ediv_nonneg h0 (by omega)
    have d5 : j / prodL s < e := Int.ediv_lt_of_lt_mul (by omega) (by rw [Int.mul_comm] at h1; rwa [Int.mul_comm])
    have k1 : i * (e * prodL s) + j = (i * e + j / prodL s) * prodL s + j % prodL s := by
      rw [Int.add_mul, Int.mul_assoc]
      rw [Int.mul_comm (prodL s)] at d1
      omega
    have k2 : j = (j / prodL s) * prodL s + j % prodL s := by rw [Int.mul_comm]; omega
    rw [unrL_cons, unrL_cons, k1, unr_split s hs _ _ d2 d3]
    have k3 := unr_split s hs (j / prodL s) (j % prodL s) d2 d3
    rw [← k2] at k3
    rw [k3]
    have m1 : (i * e + j / prodL s) % e = j / prodL s := by rw [Int.add_comm, Int.add_mul_emod_self_right, Int.emod_eq_of_lt d4 d5]
    have m2 : (i * e + j / prodL s) / e = i := by rw [Int.add_comm, Int.add_mul_ediv_right _ _ (by omega), Int.ediv_eq_zero_of_lt d4 d5]; omega
    have m3 : (j / prodL s) % e = j / prodL s := Int.emod_eq_of_lt d4 d5
    rw [m1, m2, m3]

/-- is it an index of a shape? -/
def IxOf : List Int → List Int → Prop
  | [], [] => True
  | e :: s, x :: r => (0 ≤ x ∧ x < e) ∧ IxOf s r
  | _, _ => False
theorem IxOf.len : ∀ {s r : List Int}, IxOf s r → r.length = s.length
  | [], [], _ => rfl
  | e :: s, x :: r, h => by simp [IxOf.len h.2]
  | [], x :: r, h => h.elim
  | e :: s, [], h => h.elim
theorem IxOf.pos : ∀ {s r : List Int}, IxOf s r → ∀ e ∈ s, 1 ≤ e
  | [], _, _ => by simp
  | e :: s, x :: r, h => by
    intro q hq
    rcases List.mem_cons.1 hq with rfl | hq
    · have := h.1; omega
    · exact IxOf.pos h.2 q hq
  | e :: s, [], h => h.elim
theorem IxOf.small : ∀ {s r : List Int}, IxOf s r → (∀ e ∈ s, e ≤ 60) → ∀ x ∈ r, 0 ≤ x ∧ x ≤ 60
  | [], [], _, _ => by simp
  | e :: s, x :: r, h, hs => by
    intro q hq
    rcases List.mem_cons.1 hq with rfl | hq
    · have := h.1; have := hs e (List.mem_cons_self ..); omega
    · exact IxOf.small h.2 (fun q hq => hs q (List.mem_cons_of_mem _ hq)) q hq
  | [], x :: r, h, _ => h.elim
  | e :: s, [], h, _ => h.elim
/-- the index of a rank -/
theorem ix_unr : ∀ (s : List Int), (∀ e ∈ s, 1 ≤ e) → ∀ k : Int, IxOf s (unrL s k).1
  | [], _, k => trivial
  | e :: s, hp, k => by
    rw [unrL_cons]
    have he := hp e (List.mem_cons_self ..)
    exact ⟨⟨Int.emod_nonneg _ (by omega), Int.emod_lt_of_pos _ (by omega)⟩, ix_unr s (fun q hq => hp q (List.mem_cons_of_mem _ hq)) k⟩
/-- the rank of an index, and the index of that rank -/
theorem unr_rank : ∀ (s r : List Int), IxOf s r → (0 ≤ rankC s r ∧ rankC s r < prodL s) ∧ (unrL s (rankC s r)).1 = r
  | [], [], _ => by simp [rankC, prodL, unrL]
  | e :: s, x :: r, h => by
    obtain ⟨⟨h1, h2⟩, h3⟩ := unr_rank s r h.2
    have hP := prodL_pos h.2.pos
    have b1 : (x + 1) * prodL s ≤ e * prodL s := Int.mul_le_mul_of_nonneg_right (by have := h.1; omega) (by omega)
    have b2 : 0 ≤ x * prodL s := Int.mul_nonneg h.1.1 (by omega)
    rw [Int.add_mul] at b1
    simp only [rankC, prodL_cons]
    refine ⟨⟨by omega, by omega⟩, ?_⟩
    rw [unrL_cons, unr_split s h.2.pos x (rankC s r) h1 h2, h3]
    simp only
    rw [Int.emod_eq_of_lt h.1.1 h.1.2]
  | [], x :: r, h => h.elim
  | e :: s, [], h => h.elim
/-- all indices of a shape, in order -/
def idxR : List Int → List (List Int)
  | [] => [[]]
  | e :: s => (List.range e.toNat).flatMap fun i : Nat => (idxR s).map fun r => (i : Int) :: r
theorem range_mul (n p : Nat) : List.range (n * p) = (List.range n).flatMap fun i => (List.range p).map fun j => i * p + j := by
  induction n with
  | zero => simp
  | succ n ih =>
    rw [Nat.succ_mul, List.range_add, ih, List.range_succ, List.flatMap_append]
    simp
theorem flatMap_same {β : Type} {l : List Nat} {f g : Nat → List β} (h : ∀ i ∈ l, f i = g i) : l.flatMap f = l.flatMap g := by
  induction l with
  | nil => rfl
  | cons i l ih => rw [List.flatMap_cons, List.flatMap_cons, h i (List.mem_cons_self ..), ih fun j hj => h j (List.mem_cons_of_mem _ hj)]
theorem idx_eq : ∀ (s : List Int), (∀ e ∈ s, 1 ≤ e) → (List.range (prodL s).toNat).map (fun k : Nat => (unrL s k).1) = idxR s
  | [], _ => by simp [prodL, idxR, unrL, List.range_succ]
  | e :: s, hp => by
    have hs := fun q hq => hp q (List.mem_cons_of_mem e hq)
    have he := hp e (List.mem_cons_self ..)
    have hP := prodL_pos hs
    have ih := idx_eq s hs
    have hn : (prodL (e :: s)).toNat = e.toNat * (prodL s).toNat := by
      rw [prodL_cons, Int.toNat_mul (by omega) (by omega)]
    rw [hn, range_mul, List.map_flatMap, idxR]
    refine flatMap_same fun i hi => ?_
    rw [List.mem_range] at hi
    rw [← ih, List.map_map, List.map_map]
    refine List.map_congr_left fun j hj => ?_
    rw [List.mem_range] at hj
    simp only [Function.comp]
    have hc : ((i * (prodL s).toNat + j : Nat) : Int) = (i : Int) * prodL s + (j : Int) := by
      rw [Int.natCast_add, Int.natCast_mul, Int.toNat_of_nonneg (by omega)]
    rw [hc, unrL_cons, unr_split s hs _ _ (by omega) (by omega)]
    simp only
    rw [Int.emod_eq_of_lt (by omega) (by omega)]
theorem mem_idxR : ∀ (s r : List Int), r ∈ idxR s ↔ IxOf s r
  | [], r => by cases r <;> simp [idxR, IxOf]
  | e :: s, [] => by simp [idxR, IxOf]
  | e :: s, x :: r => by
    simp only [idxR, List.mem_flatMap, List.mem_range, List.mem_map, List.cons.injEq, IxOf]
    constructor
    · rintro ⟨i, hi, r', hr, rfl, rfl⟩
      exact ⟨by omega, (mem_idxR s r').1 hr⟩
    · rintro ⟨h1, h2⟩
      exact ⟨x.toNat, by omega, r, (mem_idxR s r).2 h2, by omega, rfl⟩
end Go.Proofs.Ytpgkhjmboiepcaa

/- Plain laws on views: the cells of all indices, views that are drawn out of views. -/
namespace Go.Proofs.Ytpgkhjmboiepcaa
open Go.RowKit
set_option linter.unusedVariables false
set_option maxRecDepth 100000

/-- the cells of all indices, unbounded -/
def offC (b : Int) (s t : List Int) : List Int := (idxR s).map fun r => dotC b r t

theorem idxR_none {s : List Int} (h : ¬ ∀ e ∈ s, 1 ≤ e) : idxR s = [] := by
  rw [List.eq_nil_iff_forall_not_mem]
  intro r hr
  exact h ((mem_idxR s r).1 hr).pos
theorem offs_C {b : Int} {s t : List Int} (hs : Small s) (hm : Mild b t) : offsL b s t = offC b s t := by
  obtain ⟨h1, h2, h3, h4⟩ := hs.count
  unfold offC
  by_cases hp : ∀ e ∈ s, 1 ≤ e
  · rw [← idx_eq s hp]
    unfold offsL
    rw [h1, List.map_map]
    refine List.map_congr_left fun k hk => ?_
    have hi := ix_unr s hp k
    exact dotL_eq (by rw [unrL_len]; exact hs.1) (hi.small fun e he => (hs.2 e he).2) hm
  · rw [idxR_none hp]
    refine offsL_zero ?_
    apply Classical.byContradiction
    intro hn
    exact hp (h4 (by omega))
theorem view_small {b : Int} {s t : List Int} (h : viewB b s t = true) : Small s := Small.of (viewB_in h).1
theorem view_mild {b : Int} {s t : List Int} (h : viewB b s t = true) : Mild b t := by
  obtain ⟨_, _, h1, h2, _⟩ := viewB_in h
  exact ⟨by omega, fun x hx => by have := h2 x hx; omega⟩
theorem view_C {b : Int} {s t : List Int} (h : viewB b s t = true) : offsL b s t = offC b s t := offs_C (view_small h) (view_mild h)

theorem offC_cons (b e : Int) (s : List Int) (x : Int) (t : List Int) : offC b (e :: s) (x :: t) = (List.range e.toNat).flatMap fun i : Nat => (offC b s t).map (· + (i : Int) * x) := by
  unfold offC
  rw [idxR, List.map_flatMap]
  refine flatMap_same fun i _ => ?_
  rw [List.map_map, List.map_map]
  refine List.map_congr_left fun r _ => ?_
  simp only [Function.comp, dotC]; omega
/-- what makes a view one -/
theorem viewB_mk {b : Int} {s t : List Int} (h1 : shapeB s = true) (h2 : t.length = s.length) (h3 : 0 ≤ b ∧ b ≤ 60) (h4 : ∀ x ∈ t, -60 ≤ x ∧ x ≤ 60) (h5 : ∀ x ∈ offsL b s t, 0 ≤ x ∧ x ≤ 59) : viewB b s t = true := by
  rw [viewB_end (by rw [h1, decide_eq_true h2]; simp [inB]; omega) (by rw [List.all_eq_true]; intro x hx; have := h4 x hx; simp [inB]; omega), any_out, List.all_eq_true]
  intro x hx; have := h5 x hx; simp [inB]; omega

end Go.Proofs.Ytpgkhjmboiepcaa

/- Plain laws on views: the cell at a rank, indices one step apart. -/
namespace Go.Proofs.Ytpgkhjmboiepcaa
open Go.RowKit
set_option linter.unusedVariables false
set_option maxRecDepth 100000

theorem offs_get {b : Int} {s t : List Int} (h : viewB b s t = true) (k : Nat) (hk : (k : Int) < countL s) : (offsL b s t).getD k 0 = dotC b (unrL s k).1 t := by
  have hs := view_small h
  obtain ⟨h1, h2, h3, h4⟩ := hs.count
  have hp := h4 (by omega)
  unfold offsL
  simp only [List.getD_eq_getElem?_getD, List.getElem?_map, List.getElem?_range (show k < (countL s).toNat by omega), Option.map_some, Option.getD_some]
  exact dotL_eq (by rw [unrL_len]; exact hs.1) ((ix_unr s hp k).small fun e he => (hs.2 e he).2) (view_mild h)
theorem offs_count {b : Int} {s t : List Int} : (offsL b s t).length = (countL s).toNat := by unfold offsL; simp

theorem dotC_set : ∀ (r t : List Int) (d : Nat) (x b : Int), d < r.length → r.length = t.length → dotC b (r.set d x) t = dotC b r t + (x - r.getD d 0) * t.getD d 0
  | [], _, d, _, _, h, _ => by simp at h
  | y :: r, [], _, _, _, _, h => by cases h
  | y :: r, q :: t, 0, x, b, _, _ => by simp [dotC, Int.sub_mul]; omega
  | y :: r, q :: t, d+1, x, b, h, hl => by
    simp only [List.set_cons_succ, dotC, List.getD_cons_succ]
    rw [dotC_set r t d x b (by simpa using h) (by simpa using hl)]; omega
theorem ix_set : ∀ (s r : List Int) (d : Nat) (x : Int), IxOf s r → d < s.length → 0 ≤ x → x < s.getD d 0 → IxOf s (r.set d x)
  | [], _, d, _, _, h, _, _ => by simp at h
  | e :: s, [], _, _, h, _, _, _ => h.elim
  | e :: s, y :: r, 0, x, h, _, h0, h1 => by simp at h1; exact ⟨⟨h0, h1⟩, h.2⟩
  | e :: s, y :: r, d+1, x, h, hd, h0, h1 => ⟨h.1, ix_set s r d x h.2 (by simpa using hd) h0 (by simpa using h1)⟩
theorem ix_get : ∀ (s r : List Int) (d : Nat), IxOf s r → d < s.length → 0 ≤ r.getD d 0 ∧ r.getD d 0 < s.getD d 0
  | [], _, d, _, h => by simp at h
  | e :: s, [], _, h, _ => h.elim
  | e :: s, y :: r, 0, h, _ => by simpa using h.1
  | e :: s, y :: r, d+1, h, hd => by simpa using ix_get s r d h.2 (by simpa using hd)

/-- the cell at the rank of an index -/
theorem offs_rank {b : Int} {s t r : List Int} (h : viewB b s t = true) (hr : IxOf s r) : (0 ≤ rankL s r ∧ rankL s r < countL s) ∧ (offsL b s t).getD (rankL s r).toNat 0 = dotC b r t := by
  have hs := view_small h
  obtain ⟨h1, h2, h3, h4⟩ := hs.count
  have hsm := hr.small fun e he => (hs.2 e he).2
  have e := rankL_eq (shape := s) (ix := r) hr.len.symm hs hsm
  obtain ⟨⟨a1, a2⟩, a3⟩ := unr_rank s r hr
  rw [e]
  rw [← h1] at a2
  refine ⟨⟨a1, a2⟩, ?_⟩
  rw [offs_get h _ (by omega), Int.toNat_of_nonneg a1, a3]
/-- is the list an index of the shape? -/
def ixB (s r : List Int) : Bool := decide (r.length = s.length) && (s.zip r).all fun p => decide (0 ≤ p.2) && decide (p.2 < p.1)
theorem ixB_iff : ∀ (s r : List Int), ixB s r = true ↔ IxOf s r
  | [], [] => by simp [ixB, IxOf]
  | [], x :: r => by simp [ixB, IxOf]
  | e :: s, [] => by simp [ixB, IxOf]
  | e :: s, x :: r => by
    have := ixB_iff s r
    simp only [ixB, IxOf, List.length_cons, List.zip_cons_cons, List.all_cons, Bool.and_eq_true, decide_eq_true_eq, Nat.add_right_cancel_iff] at this ⊢
    rw [← this]
    constructor
    · rintro ⟨a, b, c⟩; exact ⟨b, a, c⟩
    · rintro ⟨b, a, c⟩; exact ⟨a, b, c⟩
theorem ixB_small {s r : List Int} (h : ixB s r = true) (hs : Small s) : ∀ x ∈ r, 0 ≤ x ∧ x ≤ 60 := ((ixB_iff s r).1 h).small fun e he => (hs.2 e he).2

end Go.Proofs.Ytpgkhjmboiepcaa

/- Plain laws on views: dimensions as pairs, in any order; what makes a view one, by its least and greatest cell. -/
namespace Go.Proofs.Ytpgkhjmboiepcaa
open Go.RowKit
set_option linter.unusedVariables false
set_option maxRecDepth 100000

/-- the cells of dimensions (extent, stride) -/
def offP (b : Int) : List (Int × Int) → List Int
  | [] => [b]
  | p :: P => (List.range p.1.toNat).flatMap fun i : Nat => (offP b P).map (· + (i : Int) * p.2)
theorem offC_P : ∀ (s t : List Int) (b : Int), t.length = s.length → offC b s t = offP b (s.zip t)
  | [], [], b, _ => rfl
  | e :: s, x :: t, b, h => by rw [offC_cons, List.zip_cons_cons, offP, offC_P s t b (by simpa using h)]
  | [], _ :: _, _, h => by cases h
  | _ :: _, [], _, h => by cases h
theorem flatMap_perm {β : Type} {l : List Nat} {f g : Nat → List β} (h : ∀ i ∈ l, (f i).Perm (g i)) : (l.flatMap f).Perm (l.flatMap g) := by
  induction l with
  | nil => exact .nil
  | cons i l ih => rw [List.flatMap_cons, List.flatMap_cons]; exact (h i (List.mem_cons_self ..)).append (ih fun j hj => h j (List.mem_cons_of_mem _ hj))
theorem append_swap {β : Type} (a b c d : List β) : ((a ++ b) ++ (c ++ d)).Perm ((a ++ c) ++ (b ++ d)) := by
  rw [List.append_assoc, List.append_assoc]
  refine List.Perm.append_left a ?_
  rw [← List.append_assoc, ← List.append_assoc]
  exact List.Perm.append_right d List.perm_append_comm
theorem flatMap_append_perm {β : Type} (l : List Nat) (f g : Nat → List β) : (l.flatMap fun i => f i ++ g i).Perm (l.flatMap f ++ l.flatMap g) := by
  induction l with
  | nil => exact .nil
  | cons i l ih =>
    rw [List.flatMap_cons, List.flatMap_cons, List.flatMap_cons]
    exact (List.Perm.append_left _ ih).trans (append_swap _ _ _ _)
theorem flatMap_swap {β : Type} (l m : List Nat) (f : Nat → Nat → List β) : (l.flatMap fun i => m.flatMap fun j => f i j).Perm (m.flatMap fun j => l.flatMap fun i => f i j) := by
  induction l with
  | nil => simp
  | cons i l ih =>
    rw [List.flatMap_cons]
    refine (List.Perm.append_left _ ih).trans ?_
    simp only [List.flatMap_cons]
    exact (flatMap_append_perm m _ _).symm
theorem offP_perm {P Q : List (Int × Int)} (b : Int) (h : P.Perm Q) : (offP b P).Perm (offP b Q) := by
  induction h with
  | nil => exact .refl _
  | cons p h ih => rw [offP, offP]; exact flatMap_perm fun i _ => ih.map _
  | swap p q P =>
    simp only [offP, List.map_flatMap, List.map_map]
    refine (flatMap_swap _ _ _).trans (flatMap_perm fun i _ => flatMap_perm fun j _ => ?_)
    rw [show ((fun x => x + (j : Int) * q.2) ∘ fun x => x + (i : Int) * p.2) = ((fun x => x + (i : Int) * p.2) ∘ fun x => x + (j : Int) * q.2) by funext x; simp only [Function.comp]; omega]
  | trans _ _ ih1 ih2 => exact ih1.trans ih2

theorem viewB_zero {b : Int} {s t : List Int} (hc : countL s = 0) : viewB b s t = true ↔ (shapeB s = true ∧ t.length = s.length ∧ (0 ≤ b ∧ b ≤ 60) ∧ (∀ x ∈ t, -60 ≤ x ∧ x ≤ 60)) := by
  constructor
  · intro h
    obtain ⟨h1, h2, h3, h4, h5⟩ := viewB_in h
    exact ⟨h1, h2, h3, h4⟩
  · rintro ⟨h1, h2, h3, h4⟩
    exact viewB_mk h1 h2 h3 h4 (by rw [offsL_zero hc]; intro x hx; cases hx)

theorem shapeB_mk {s : List Int} (h : Small s) (hc : countL s ≤ 60) : shapeB s = true := by
  unfold shapeB
  rw [decide_eq_true h.1, decide_eq_true hc]
  simp only [Bool.true_and, Bool.and_true, List.all_eq_true]
  intro e he; have := h.2 e he; simp [inB]; omega
end Go.Proofs.Ytpgkhjmboiepcaa

/- Walks: MeetRanges of the program and of the reference. -/
namespace Go.Proofs.Ytpgkhjmboiepcaa
open Go.RowKit
set_option linter.unusedVariables false
set_option maxRecDepth 100000

end Go.Proofs.Ytpgkhjmboiepcaa

/- Walks: what is asked of ranges: lengths, numbers, places, covers. -/
namespace Go.Proofs.Ytpgkhjmboiepcaa
open Go.RowKit
set_option linter.unusedVariables false
set_option maxRecDepth 100000

end Go.Proofs.Ytpgkhjmboiepcaa

/- Walks: slices of the reference: valid ones, ends, indices, and what a slice takes of a range. -/
namespace Go.Proofs.Ytpgkhjmboiepcaa
open Go.RowKit
set_option linter.unusedVariables false
set_option maxRecDepth 100000

def sliceB (F T B : Int) (hf ht : Bool) : Bool := inB (-100) 100 F && (inB (-100) 100 T && (inB (-200) 200 B && (!(B == 0) && ((hf || F == 0) && (ht || T == 0)))))
theorem sliceB_in {F T B : Int} {hf ht : Bool} (h : sliceB F T B hf ht = true) : (-100 ≤ F ∧ F ≤ 100) ∧ (-100 ≤ T ∧ T ≤ 100) ∧ (-200 ≤ B ∧ B ≤ 200) ∧ B ≠ 0 := by
  simp only [sliceB, inB, Bool.and_eq_true, decide_eq_true_eq, Bool.not_eq_true', beq_eq_false_iff_ne] at h
  exact ⟨h.1, h.2.1, h.2.2.1, h.2.2.2.1⟩
/-- an end of a slice that is given -/
def boundI (n x b : Int) : Int := min (if b < 0 then n - 1 else n) (max (if b < 0 then -1 else 0) (if x < 0 then x + n else x))
def fromI (n F B : Int) (hf : Bool) : Int := if hf then boundI n F B else if B < 0 then n - 1 else 0
def toI (n T B : Int) (ht : Bool) : Int := if ht then boundI n T B else if B < 0 then -1 else n
/-- the indices that a slice takes of n -/
def idxS (n F T B : Int) (hf ht : Bool) : List Int := numL (fromI n F B hf) (toI n T B ht) B
theorem boundI_in {n x b : Int} (hn : 0 ≤ n) : (-1 ≤ boundI n x b ∧ boundI n x b ≤ n) ∧ (b < 0 → boundI n x b ≤ n - 1) ∧ (0 ≤ b → 0 ≤ boundI n x b) := by unfold boundI; split <;> split <;> omega
theorem fromI_in {n F B : Int} {hf : Bool} (hn : 0 ≤ n) : (-1 ≤ fromI n F B hf ∧ fromI n F B hf ≤ n) ∧ (B < 0 → fromI n F B hf ≤ n - 1) ∧ (0 ≤ B → 0 ≤ fromI n F B hf) := by
  have := boundI_in (n := n) (x := F) (b := B) hn
  unfold fromI; split
  · exact this
  · split <;> omega
theorem toI_in {n T B : Int} {ht : Bool} (hn : 0 ≤ n) : (-1 ≤ toI n T B ht ∧ toI n T B ht ≤ n) := by
  have := boundI_in (n := n) (x := T) (b := B) hn
  unfold toI; split
  · exact this.1
  · split <;> omega
theorem idxS_in {n F T B : Int} {hf ht : Bool} (hn : 0 ≤ n) (hB : B ≠ 0) : ∀ i ∈ idxS n F T B hf ht, 0 ≤ i ∧ i < n := by
  intro i hi
  have h1 := fromI_in (n := n) (F := F) (B := B) (hf := hf) hn
  have h2 := toI_in (n := n) (T := T) (B := B) (ht := ht) hn
  have h3 := numL_in hB hi
  omega
theorem ret_i {x y : Int} (h : x = y) : Ending.returned (.int .i64 x) = .returned (.int .i64 y) := by rw [h]

set_option maxHeartbeats 1600000 in
theorem bound_c (n x b : Int) (w : World) (hn : 0 ≤ n ∧ n ≤ 1000) (hx : -1000 ≤ x ∧ x ≤ 1000) :
    Calls Try.prog 161 #[.int .i64 n, .int .i64 x, .int .i64 b] w fun e w' => e = .returned (.int .i64 (boundI n x b)) ∧ w = w' := by
  obtain ⟨n0, n1⟩ := hn
  obtain ⟨x0, x1⟩ := hx
  by_cases hb : b < 0
  · by_cases hx0 : x < 0
    all_goals
      go_enter Try.func161, Try.ntmps161
      go_wp2_with fail
      go_ret
      exact ⟨ret_i (by unfold boundI; (repeat' split) <;> omega), rfl⟩
  · by_cases hx0 : x < 0
    all_goals
      go_enter Try.func161, Try.ntmps161
      go_wp2_with fail
      go_ret
      exact ⟨ret_i (by unfold boundI; (repeat' split) <;> omega), rfl⟩

set_option maxHeartbeats 3200000 in
theorem validSlice_c (F T B : Int) (hf ht : Bool) (w : World) :
    Calls Try.prog 145 #[.agg #[.int .i64 F, .int .i64 T, .int .i64 B, .bool hf, .bool ht]] w fun e w' => e = .returned (.bool (sliceB F T B hf ht)) ∧ Ext w w' := by
  unfold sliceB
  cases h1 : inB (-100) 100 F
  · go_enter Try.func145, Try.ntmps145
    go_wp2_with (go_at_call 57; refine (inRange_c _ _ _ _).mono ?_; rintro e w' ⟨rfl, rfl⟩)
    go_ret
    exact ⟨rfl, qXo⟩
  · cases h2 : inB (-100) 100 T
    · go_enter Try.func145, Try.ntmps145
      go_wp2_with (go_at_call 57; refine (inRange_c _ _ _ _).mono ?_; rintro e w' ⟨rfl, rfl⟩)
      go_ret
      exact ⟨rfl, qXo⟩
    · cases h3 : inB (-200) 200 B
      · go_enter Try.func145, Try.ntmps145
        go_wp2_with (go_at_call 57; refine (inRange_c _ _ _ _).mono ?_; rintro e w' ⟨rfl, rfl⟩)
        go_ret
        exact ⟨rfl, qXo⟩
      · cases h4 : (B == 0)
        · have h5 : (B != 0) = true := by simpa using h4
          cases hf
          · cases h6 : (F == 0)
            · cases ht
              all_goals
                go_enter Try.func145, Try.ntmps145
                go_wp2_with (go_at_call 57; refine (inRange_c _ _ _ _).mono ?_; rintro e w' ⟨rfl, rfl⟩)
                go_ret
                exact ⟨rfl, qXo⟩
            · cases ht
              · cases h7 : (T == 0)
                all_goals
                  go_enter Try.func145, Try.ntmps145
                  go_wp2_with (go_at_call 57; refine (inRange_c _ _ _ _).mono ?_; rintro e w' ⟨rfl, rfl⟩)
                  go_ret
                  exact ⟨rfl, qXo⟩
              · go_enter Try.func145, Try.ntmps145
                go_wp2_with (go_at_call 57; refine (inRange_c _ _ _ _).mono ?_; rintro e w' ⟨rfl, rfl⟩)
                go_ret
                exact ⟨rfl, qXo⟩
          · cases ht
            · cases h7 : (T == 0)
              all_goals
                go_enter Try.func145, Try.ntmps145
                go_wp2_with (go_at_call 57; refine (inRange_c _ _ _ _).mono ?_; rintro e w' ⟨rfl, rfl⟩)
                go_ret
                exact ⟨rfl, qXo⟩
            · go_enter Try.func145, Try.ntmps145
              go_wp2_with (go_at_call 57; refine (inRange_c _ _ _ _).mono ?_; rintro e w' ⟨rfl, rfl⟩)
              go_ret
              exact ⟨rfl, qXo⟩
        · have h5 : (B != 0) = false := by simpa using h4
          go_enter Try.func145, Try.ntmps145
          go_wp2_with (go_at_call 57; refine (inRange_c _ _ _ _).mono ?_; rintro e w' ⟨rfl, rfl⟩)
          go_ret
          exact ⟨rfl, qXo⟩

set_option maxHeartbeats 3200000 in
theorem indices_c (n F T B : Int) (hf ht : Bool) (w : World) (hn : 0 ≤ n ∧ n ≤ 200) (hs : sliceB F T B hf ht = true) :
    Calls Try.prog 156 #[.int .i64 n, .agg #[.int .i64 F, .int .i64 T, .int .i64 B, .bool hf, .bool ht]] w (PInts w (idxS n F T B hf ht)) := by
  have hi := sliceB_in hs
  have hF := fromI_in (n := n) (F := F) (B := B) (hf := hf) hn.1
  have hT := toI_in (n := n) (T := T) (B := B) (ht := ht) hn.1
  have hB0 := hi.2.2.2
  have hnum := Lib.hid (fun W => numbers_c (fromI n F B hf) (toI n T B ht) B W (by omega) (by omega) (by omega) hB0)
  obtain ⟨⟨F0, F1⟩, ⟨T0, T1⟩, ⟨B0, B1⟩, -⟩ := hi
  obtain ⟨n0, n1⟩ := hn
  unfold idxS
  clear hs hF hT hB0
  unfold fromI toI at hnum ⊢
  cases hf <;> cases ht <;> by_cases hb : B < 0
  all_goals
    simp only [hb, if_true, if_false, Bool.false_eq_true] at hnum ⊢
    go_enter Try.func156, Try.ntmps156
    go_wp2_with (go_at_call 161; refine (bound_c _ _ _ _ (by omega) (by omega)).mono ?_; rintro e w' ⟨rfl, rfl⟩)
    refine (hnum.out _).mono ?_
    rintro e w1 ⟨v1, rfl, i1, o1, x1⟩
    go_wp2_with fail
    go_ret
    exact PInts.of o1 i1 (Ext.size (show Ext w _ from qXo)) (Ext.trans qXo x1)

end Go.Proofs.Ytpgkhjmboiepcaa

/- Plain laws: numbers in a row and their normal range; a view of some indices of a dimension. -/
namespace Go.Proofs.Ytpgkhjmboiepcaa
open Go.RowKit
set_option linter.unusedVariables false
set_option maxRecDepth 100000

theorem cnt_of {a b s : Int} (hs : s ≠ 0) {n : Nat} (h : ∀ k : Nat, (0 < s ∧ a + k * s < b ∨ s < 0 ∧ b < a + k * s) ↔ k < n) : cntL a b s = n := by
  have h1 := fun k => (num_step (a := a) (b := b) hs k).symm.trans (h k)
  rcases Nat.lt_trichotomy (cntL a b s) n with h2 | h2 | h2
  · have := (h1 (cntL a b s)).2 h2; omega
  · exact h2
  · have := (h1 n).1 h2; omega
theorem numL_two {a b s : Int} {m : Nat} (hn : cntL a b s = m + 2) : numL a b s = a :: (a + s) :: (List.range m).map fun k : Nat => a + ((k + 2 : Nat) : Int) * s := by
  unfold numL
  rw [hn, show m + 2 = 2 + m by omega, List.range_add, List.map_append, List.map_map]
  simp only [List.range_succ, List.range_zero, List.nil_append, List.cons_append, List.map_cons, List.map_nil]
  refine congr (congrArg _ (by simp)) (congr (congrArg _ (by simp)) ?_)
  refine List.map_congr_left fun k _ => ?_
  simp only [Function.comp]; rw [Nat.add_comm 2 k]
/-- the normal range of numbers in a row has these numbers -/
theorem norm_numL {a b s : Int} (hs : s ≠ 0) : numL (normL (numL a b s)).1 (normL (numL a b s)).2.1 (normL (numL a b s)).2.2 = numL a b s := by
  generalize hn : cntL a b s = n
  match n, hn with
  | 0, hn =>
    have : numL a b s = [] := by unfold numL; rw [hn]; rfl
    rw [this]; rfl
  | 1, hn =>
    have : numL a b s = [a] := by unfold numL; rw [hn]; simp [List.range_succ]
    rw [this]
    show numL a (a + 1) 1 = [a]
    have h2 : cntL a (a + 1) 1 = 1 := cnt_of (by omega) fun k => by omega
    unfold numL; rw [h2]; simp [List.range_succ]
  | m + 2, hn =>
    have e := numL_two hn
    have hl : ((a + s) :: (List.range m).map fun k : Nat => a + ((k + 2 : Nat) : Int) * s).getLast (by simp) = a + ((m + 1 : Nat) : Int) * s := by
      cases m with
      | zero => simp
      | succ m => rw [List.getLast_cons (by simp)]; simp [List.range_succ]; rw [show (m : Int) + 2 = m + 1 + 1 by omega]
    have hst : normL (numL a b s) = (a, if s < 0 then a + ((m + 1 : Nat) : Int) * s - 1 else a + ((m + 1 : Nat) : Int) * s + 1, s) := by
      rw [e, normL, hl, show a + s - a = s by omega]
    rw [hst]
    simp only
    have hc : cntL a (if s < 0 then a + ((m + 1 : Nat) : Int) * s - 1 else a + ((m + 1 : Nat) : Int) * s + 1) s = m + 2 := by
      refine cnt_of hs fun k => ?_
      have hd : ((m + 1 : Nat) : Int) * s - (k : Int) * s = (((m + 1 : Nat) : Int) - k) * s := by rw [Int.sub_mul]
      by_cases hk : k < m + 2
      · have : 0 ≤ ((m + 1 : Nat) : Int) - k := by omega
        rcases Int.lt_or_gt_of_ne hs with h | h
        · have := Int.mul_nonpos_of_nonneg_of_nonpos this (show s ≤ 0 by omega)
          rw [if_pos h]; constructor
          · intro _; exact hk
          · intro _; right; omega
        · have := Int.mul_nonneg this (show 0 ≤ s by omega)
          rw [if_neg (by omega)]; constructor
          · intro _; exact hk
          · intro _; left; omega
      · have h1 : ((m + 1 : Nat) : Int) - k ≤ -1 := by omega
        rcases Int.lt_or_gt_of_ne hs with h | h
        · have := Int.mul_le_mul_of_nonpos_right h1 (show s ≤ 0 by omega)
          rw [if_pos h]; constructor
          · intro h; omega
          · intro h; omega
        · have := Int.mul_le_mul_of_nonneg_right h1 (show 0 ≤ s by omega)
          rw [if_neg (by omega)]; constructor
          · intro h; omega
          · intro h; omega
    have hn2 : numL a b s = (List.range (m + 2)).map fun k : Nat => a + k * s := by unfold numL; rw [hn]
    rw [hn2]
    unfold numL; rw [hc]

/-- the facts of a row of numbers that cutDim asks -/
theorem norm_two {a b s : Int} (hs : s ≠ 0) : ((numL a b s).length ≠ 0 → (normL (numL a b s)).1 = a) ∧ ((numL a b s).length = 0 → (normL (numL a b s)).1 = 0) ∧ (2 ≤ (numL a b s).length → (normL (numL a b s)).2.2 = s) := by
  rw [numL_len]
  generalize hn : cntL a b s = n
  match n, hn with
  | 0, hn =>
    have : numL a b s = [] := by unfold numL; rw [hn]; rfl
    rw [this]; exact ⟨fun h => absurd rfl h, fun _ => rfl, fun h => by omega⟩
  | 1, hn =>
    have : numL a b s = [a] := by unfold numL; rw [hn]; simp [List.range_succ]
    rw [this]; exact ⟨fun _ => rfl, fun h => by omega, fun h => by omega⟩
  | m + 2, hn =>
    have e := numL_two hn
    rw [e]; exact ⟨fun _ => rfl, fun h => by omega, fun _ => by show a + s - a = s; omega⟩

theorem prodL_set (s : List Int) (d : Nat) (x : Int) (hd : d < s.length) : prodL (s.set d x) = prodL (s.take d) * (x * prodL (s.drop (d+1))) := by
  have := prodL_split (s.set d x) d (by simpa using hd)
  rw [this, List.getElem_set_self, List.take_set_of_le (Nat.le_refl d), List.drop_set_of_lt (Nat.lt_succ_self d)]

/-- indices of a view whose dimension d has other indices: the cell is the cell of that index -/
theorem ix_at : ∀ (s r : List Int) (d : Nat) (n : Int), IxOf (s.set d n) r → d < s.length → ∀ x, 0 ≤ x → x < s.getD d 0 → IxOf s (r.set d x)
  | [], _, d, _, _, h, _, _, _ => by simp at h
  | e :: s, [], 0, n, h, _, _, _, _ => h.elim
  | e :: s, [], d+1, n, h, _, _, _, _ => h.elim
  | e :: s, y :: r, 0, n, h, _, x, h0, h1 => ⟨⟨h0, by simpa using h1⟩, h.2⟩
  | e :: s, y :: r, d+1, n, h, hd, x, h0, h1 => ⟨h.1, ix_at s r d n h.2 (by simpa using hd) x h0 (by simpa using h1)⟩
theorem dotC_cut : ∀ (r t : List Int) (d : Nat) (b c x y : Int), d < r.length → r.length = t.length → c + r.getD d 0 * x = y * t.getD d 0 → dotC (b + c) r (t.set d x) = dotC b (r.set d y) t
  | [], _, d, _, _, _, _, h, _, _ => by simp at h
  | q :: r, [], _, _, _, _, _, _, h, _ => by cases h
  | q :: r, u :: t, 0, b, c, x, y, _, _, h => by
    simp only [List.getD_cons_zero, List.set_cons_zero, dotC] at h ⊢
    rw [dotC_add]; omega
  | q :: r, u :: t, d+1, b, c, x, y, hd, hl, h => by
    simp only [List.getD_cons_succ, List.set_cons_succ, dotC] at h ⊢
    rw [dotC_cut r t d b c x y (by simpa using hd) (by simpa using hl) h]
/-- a view of some indices of dimension d (numbers L0, L0 + q, .. of them n): its cells are cells of the view -/
theorem cut_mem {b : Int} {s t : List Int} {d : Nat} {L0 q : Int} {n : Nat} (hl : t.length = s.length) (hd : d < s.length) (hn : ∀ i : Nat, i < n → 0 ≤ L0 + i * q ∧ L0 + i * q < s.getD d 0) :
    ∀ y ∈ offC (b + L0 * t.getD d 0) (s.set d n) (t.set d (q * t.getD d 0)), y ∈ offC b s t := by
  intro y hy
  unfold offC at hy ⊢
  rw [List.mem_map] at hy ⊢
  obtain ⟨r, hr, rfl⟩ := hy
  have hix := (mem_idxR _ _).1 hr
  have hrl : r.length = s.length := by have := hix.len; simpa using this
  obtain ⟨g0, g1⟩ := ix_get _ _ d hix (by simpa using hd)
  have hset : (s.set d (n : Int)).getD d 0 = n := by simp [hd]
  rw [hset] at g1
  obtain ⟨i, hi⟩ : ∃ i : Nat, r.getD d 0 = i := ⟨(r.getD d 0).toNat, by omega⟩
  have hin := hn i (by omega)
  refine ⟨r.set d (L0 + i * q), (mem_idxR _ _).2 (ix_at s r d n hix hd _ hin.1 hin.2), ?_⟩
  refine (dotC_cut r t d b _ _ _ (by omega) (by omega) ?_).symm
  rw [hi, Int.add_mul, Int.mul_assoc]

theorem dotC_zero : ∀ (n : Nat) (t : List Int) (b : Int), dotC b (List.replicate n 0) t = b
  | 0, t, b => by cases t <;> rfl
  | n+1, [], b => rfl
  | n+1, x :: t, b => by rw [List.replicate_succ, dotC, dotC_zero n t b]; omega
theorem ix_zero : ∀ (s : List Int), (∀ e ∈ s, 1 ≤ e) → IxOf s (List.replicate s.length 0)
  | [], _ => trivial
  | e :: s, h => ⟨by have := h e (List.mem_cons_self ..); omega, ix_zero s fun q hq => h q (List.mem_cons_of_mem _ hq)⟩
theorem off_zero {s t : List Int} (b : Int) (h : ∀ e ∈ s, 1 ≤ e) : b ∈ offC b s t := by
  unfold offC; rw [List.mem_map]
  exact ⟨_, (mem_idxR _ _).2 (ix_zero s h), dotC_zero _ _ _⟩
theorem off_unit {s t : List Int} (b : Int) (h : ∀ e ∈ s, 1 ≤ e) (hl : t.length = s.length) (d : Nat) (hd : d < s.length) (h2 : 2 ≤ s.getD d 0) : b + t.getD d 0 ∈ offC b s t := by
  unfold offC; rw [List.mem_map]
  refine ⟨(List.replicate s.length 0).set d 1, (mem_idxR _ _).2 (ix_set s _ d 1 (ix_zero s h) hd (by omega) (by omega)), ?_⟩
  rw [dotC_set _ _ _ _ _ (by simpa using hd) (by simp [hl]), dotC_zero]
  simp [hd]

theorem small_set {s : List Int} (h : Small s) (d : Nat) {x : Int} (hx : 0 ≤ x ∧ x ≤ 60) : Small (s.set d x) :=
  ⟨by rw [List.length_set]; exact h.1, fun e he => by
    rcases List.mem_or_eq_of_mem_set he with h' | h'
    · exact h.2 e h'
    · rw [h']; exact hx⟩
theorem count_set_le {s : List Int} (h : Small s) (d : Nat) (hd : d < s.length) {x : Int} (hx : 0 ≤ x ∧ x ≤ s.getD d 0) : countL (s.set d x) ≤ countL s := by
  have he := h.2 (s.getD d 0) (by simp [hd])
  have hs' := small_set h d (x := x) (by omega)
  rw [hs'.count.1, h.count.1, prodL_set s d x hd, prodL_split s d hd]
  have a1 : 0 ≤ prodL (s.take d) := prodL_nonneg fun e he => (h.2 e (List.mem_of_mem_take he)).1
  have a2 : 0 ≤ prodL (s.drop (d+1)) := prodL_nonneg fun e he => (h.2 e (List.mem_of_mem_drop he)).1
  refine Int.mul_le_mul_of_nonneg_left (Int.mul_le_mul_of_nonneg_right ?_ a2) a1
  have : s.getD d 0 = s[d] := by simp [hd]
  omega
theorem getD_mem {s : List Int} {d : Nat} (hd : d < s.length) : s.getD d 0 ∈ s := by
  have : s.getD d 0 = s[d] := by simp [hd]
  rw [this]; exact List.getElem_mem hd

/-- what cutDim gives: base, shape, strides -/
def cutB (b : Int) (s t : List Int) (d : Nat) (L : List Int) : Int := tidyB (b + (normL L).1 * t.getD d 0) (s.set d L.length)
def cutS (s : List Int) (d : Nat) (L : List Int) : List Int := s.set d L.length
def cutT (s t : List Int) (d : Nat) (L : List Int) : List Int := tidyT (s.set d L.length) (t.set d (if L.length ≤ 1 then 0 else (normL L).2.2 * t.getD d 0))

/-- some numbers in a row within n: no more than n of them -/
theorem num_len_le {a e q n : Int} (hq : q ≠ 0) (h : ∀ i ∈ numL a e q, 0 ≤ i ∧ i < n) : ((numL a e q).length : Int) ≤ n ∨ (numL a e q).length = 0 := by
  rw [numL_len]
  generalize hc : cntL a e q = m
  match m, hc with
  | 0, _ => right; rfl
  | m+1, hc =>
    left
    have g0 := h a (by unfold numL; rw [hc, List.mem_map]; exact ⟨0, by simp, by simp⟩)
    have g1 := h (a + (m : Int) * q) (by unfold numL; rw [hc, List.mem_map]; exact ⟨m, by simp, rfl⟩)
    rcases Int.lt_or_gt_of_ne hq with h' | h'
    · have := Int.mul_le_mul_of_nonneg_left (show q ≤ -1 by omega) (show (0 : Int) ≤ (m : Int) by omega)
      omega
    · have := Int.mul_le_mul_of_nonneg_left (show 1 ≤ q by omega) (show (0 : Int) ≤ (m : Int) by omega)
      omega

theorem cut_view {b : Int} {s t : List Int} {d : Nat} {a e q : Int} (h : viewB b s t = true) (hd : d < s.length) (hq : q ≠ 0) (hL : ∀ i ∈ numL a e q, 0 ≤ i ∧ i < s.getD d 0) :
    viewB (cutB b s t d (numL a e q)) (cutS s d (numL a e q)) (cutT s t d (numL a e q)) = true ∧ ((numL a e q).length : Int) ≤ 60 := by
  obtain ⟨h1, h2, h3, h4, h5⟩ := viewB_in h
  have hs := Small.of h1
  have he := hs.2 _ (getD_mem hd)
  have hlen : 0 ≤ ((numL a e q).length : Int) ∧ ((numL a e q).length : Int) ≤ s.getD d 0 := by
    rcases num_len_le hq hL with h' | h' <;> omega
  obtain ⟨n1, n2, n3⟩ := norm_two (a := a) (b := e) hq
  have hsm := small_set hs d (x := ((numL a e q).length : Int)) (by omega)
  have hcle := count_set_le hs d hd hlen
  have hc60 := (shapeB_in h1).2.2.2.1
  have hsh := shapeB_mk hsm (by omega)
  refine ⟨?_, by omega⟩
  unfold cutB cutS cutT tidyB tidyT
  by_cases hc : countL (s.set d ((numL a e q).length : Int)) = 0
  · rw [if_pos hc, if_pos hc]
    refine (viewB_zero hc).2 ⟨hsh, by simp, by omega, fun x hx => ?_⟩
    have := List.eq_of_mem_replicate hx; omega
  · rw [if_neg hc, if_neg hc]
    obtain ⟨k1, k2, k3, k4⟩ := hsm.count
    have hp := k4 (by omega)
    have hn0 : (numL a e q).length ≠ 0 := by
      intro h0
      have := hp ((numL a e q).length : Int) (by rw [List.mem_iff_getElem]; exact ⟨d, by simpa using hd, by simp⟩)
      omega
    rw [n1 hn0]
    -- the cells are cells of the view
    have key : ∀ y ∈ offC (b + a * t.getD d 0) (s.set d ((numL a e q).length : Int)) (t.set d (if (numL a e q).length ≤ 1 then 0 else (normL (numL a e q)).2.2 * t.getD d 0)), 0 ≤ y ∧ y ≤ 59 := by
      intro y hy
      have hget : ∀ i : Nat, i < (numL a e q).length → 0 ≤ a + i * q ∧ a + i * q < s.getD d 0 := fun i hi => by
        have := hL ((numL a e q)[i]) (List.getElem_mem hi)
        rwa [numL_get] at this
      have hy' : y ∈ offC b s t := by
        by_cases hle : (numL a e q).length ≤ 1
        · rw [if_pos hle] at hy
          refine cut_mem (L0 := a) (q := 0) (n := (numL a e q).length) h2 hd (fun i hi => ?_) y (by rw [Int.zero_mul]; exact hy)
          have := hget i hi
          obtain rfl : i = 0 := by omega
          omega
        · rw [if_neg hle, n3 (by omega)] at hy
          exact cut_mem (L0 := a) (q := q) (n := (numL a e q).length) h2 hd hget y hy
      rw [← view_C h] at hy'
      exact h5 y hy'
    have hb := key _ (off_zero _ hp)
    refine viewB_mk hsh (by simp [h2]) (by omega) (fun x hx => ?_) ?_
    · rcases List.mem_or_eq_of_mem_set hx with h' | h'
      · exact h4 x h'
      · by_cases hle : (numL a e q).length ≤ 1
        · rw [if_pos hle] at h'; omega
        · have hu := key _ (off_unit _ hp (by simp [h2]) d (by simpa using hd) (by simp [hd]; omega))
          simp only [List.getD_eq_getElem?_getD, List.getElem?_set_self (show d < t.length by omega), Option.getD_some] at hu
          simp only [List.getD_eq_getElem?_getD] at h' hb hu
          omega
    · rw [offs_C hsm ⟨by omega, fun x hx => ?_⟩]
      · exact key
      · rcases List.mem_or_eq_of_mem_set hx with h' | h'
        · have := h4 x h'; omega
        · by_cases hle : (numL a e q).length ≤ 1
          · rw [if_pos hle] at h'; omega
          · have hu := key _ (off_unit _ hp (by simp [h2]) d (by simpa using hd) (by simp [hd]; omega))
            simp only [List.getD_eq_getElem?_getD, List.getElem?_set_self (show d < t.length by omega), Option.getD_some] at hu
            simp only [List.getD_eq_getElem?_getD] at h' hb hu
            omega

/-- where an element lies -/
theorem Ints.at {w : World} {lo : Nat} {a : Option Addr} {n c : Nat} {xs : List Int} (h : Ints w lo (.slice a n c) xs) (i : Nat) (hi : i < xs.length) : ∃ b off, a = some ⟨b, off, none⟩ ∧ w.cell? ⟨b, off + i, none⟩ = some (.int .i64 (xs.getD i 0)) := by
  obtain ⟨a', cap, hv, h1, h2, h3, h4⟩ := h
  cases hv
  obtain ⟨b, off, ha, hb, hc, hf⟩ := h4 i hi
  exact ⟨b, off, ha, hc⟩

end Go.Proofs.Ytpgkhjmboiepcaa

/- A region that draws its order, shown once for every order: each operation is shown at whatever world may stand when it comes up, from what those told that it waits for; what each tells must last. No condition. -/
namespace Go.Proofs.Ytpgkhjmboiepcaa.RG
open Go
set_option linter.unusedVariables false
section
variable {P : Program} {ops : Array Oper} {md : Region.Mode}

def dst (ops : Array Oper) (i : Nat) : Option Tmp := (ops[i]?).bind (·.dst)
/-- facts told one by one -/
def Alls (F : Nat → Prop) : Nat → Nat → Prop
  | _, 0 => True
  | k, m+1 => F k ∧ Alls F (k+1) m
theorem Alls.mk {F : Nat → Prop} : ∀ (m k : Nat), (∀ i, i < m → F (k + i)) → Alls F k m
  | 0, k, _ => trivial
  | m+1, k, h => ⟨h 0 (by omega), Alls.mk m (k+1) fun i hi => by have := h (i+1) (by omega); rwa [show k + (i + 1) = k + 1 + i by omega] at this⟩

end
end Go.Proofs.Ytpgkhjmboiepcaa.RG

/- Walks: the reader of the drawn arguments: its numbers. -/
namespace Go.Proofs.Ytpgkhjmboiepcaa
open Go.RowKit
set_option linter.unusedVariables false
set_option maxRecDepth 100000

/-- a slice of a few bytes, in blocks below hi -/
def Bys (w : World) (hi : Nat) (a : Option Addr) (n cap : Nat) : Prop :=
 n ≤ cap ∧ cap ≤ maxLen ∧ n ≤ 2000 ∧ ∀ i, i < n → ∃ b off x, a = some ⟨b, off, none⟩ ∧ b < hi ∧ w.cell? ⟨b, off + i, none⟩ = some (.int .u8 x) ∧ 0 ≤ x ∧ x < 256
/-- the reader at block rb, of which at most k numbers were asked -/
structure Rd (w : World) (rb k : Nat) : Prop where
 ex : ∃ a n cap p, (0 ≤ p ∧ p ≤ (k : Int)) ∧ w.cell? ⟨rb, 0, none⟩ = some (.slice a n cap) ∧ w.cell? ⟨rb, 1, none⟩ = some (.int .i64 p) ∧ w.frozen? ⟨rb, 1, none⟩ = false ∧ Bys w rb a n cap
theorem Bys.chg {w w' : World} {hi lo h2 : Nat} {a : Option Addr} {n cap : Nat} (h : Bys w hi a n cap) (k : Chg lo h2 w w') (hl : hi ≤ lo) : Bys w' hi a n cap := by
 obtain ⟨h1, h2, h3, h4⟩ := h
 refine ⟨h1, h2, h3, fun i hi => ?_⟩
 obtain ⟨b, off, x, ha, hb, hc, hx⟩ := h4 i hi
 exact ⟨b, off, x, ha, hb, k.cell (.inl (by omega)) hc, hx⟩
theorem Rd.ext {w w' : World} {rb k : Nat} (h : Rd w rb k) (hx : Ext w w') : Rd w' rb k := by
 obtain ⟨a, n, cap, p, hp, h0, h1, h2, hb⟩ := h.ex
 refine ⟨a, n, cap, p, hp, hx.cell h0, hx.cell h1, (hx.frule rb 1 (qB h1)).trans h2, ?_⟩
 obtain ⟨g1, g2, g3, g4⟩ := hb
 refine ⟨g1, g2, g3, fun i hi => ?_⟩
 obtain ⟨b, off, x, ha, hbb, hc, hxx⟩ := g4 i hi
 exact ⟨b, off, x, ha, hbb, hx.cell hc, hxx⟩
theorem Rd.mono {w : World} {rb k k' : Nat} (h : Rd w rb k) (hk : k ≤ k') : Rd w rb k' := by
 obtain ⟨a, n, cap, p, hp, r⟩ := h.ex
 exact ⟨a, n, cap, p, by omega, r⟩
theorem Rd.lt {w : World} {rb k : Nat} (h : Rd w rb k) : rb < w.heap.size := by
 obtain ⟨a, n, cap, p, hp, h0, _⟩ := h.ex
 exact qB h0
/-- cells of other blocks than the reader's -/
theorem Rd.chgO {w w' : World} {rb k lo hi : Nat} (h : Rd w rb k) (c : Chg lo hi w w') (hl : rb < lo) : Rd w' rb k := by
 obtain ⟨a, n, cap, p, hp, h0, h1, h2, hb⟩ := h.ex
 refine ⟨a, n, cap, p, hp, c.cell (.inl hl) h0, c.cell (.inl hl) h1, ?_, hb.chg c (by omega)⟩
 exact (World.frozen?_of_block (a := ⟨rb, 1, none⟩) (c.block rb (qB h1) (.inl hl))).trans h2

/-- a number comes back -/
def PNum (rb k : Nat) (p : Int → Prop) (w : World) (e : Ending) (w' : World) : Prop := ∃ x, e = .returned (.int .i64 x) ∧ p x ∧ Rd w' rb k ∧ Chg rb (rb + 1) w w'

theorem rd_put {w : World} {rb k : Nat} {a : Option Addr} {n cap : Nat} {p : Int} (hp : 0 ≤ p ∧ p ≤ (k : Int)) (h0 : w.cell? ⟨rb, 0, none⟩ = some (.slice a n cap)) (h1 : w.cell? ⟨rb, 1, none⟩ = some (.int .i64 p)) (h2 : w.frozen? ⟨rb, 1, none⟩ = false) (hb : Bys w rb a n cap) :
  Rd (w.setCell ⟨rb, 1, none⟩ (.int .i64 (p + 1))) rb (k + 1) ∧ Chg rb (rb + 1) w (w.setCell ⟨rb, 1, none⟩ (.int .i64 (p + 1))) := by
 have hc : Chg rb (rb + 1) w (w.setCell ⟨rb, 1, none⟩ (.int .i64 (p + 1))) := (Chg.refl _ _ _).setCell (p := ⟨rb, 1, none⟩) (Nat.le_refl rb) (Nat.lt_succ_self rb) _
 refine ⟨⟨a, n, cap, p + 1, by omega, ?_, ?_, ?_, hb.chg hc (Nat.le_refl _)⟩, hc⟩
 ·
  refine (World.cell?_setCell_other _ _ _ _ ?_).trans h0
  simp
 ·
  exact World.cell?_setCell_same _ _ _ h1
 ·
  simpa using h2

theorem xor_bd (a b : Nat) (ha : a < 4611686018427387904) (hb : b < 4611686018427387904) : 0 ≤ bits .xor .i64 (a : Int) (b : Int) := by
 have h := Nat.xor_lt_two_pow (n := 62) (x := a) (y := b) (by omega) (by omega)
 have h1 : (BitVec.ofInt 64 (a : Int)).toNat = a := by
  rw [BitVec.ofInt_natCast, BitVec.toNat_ofNat]; exact Nat.mod_eq_of_lt (by omega)
 have h2 : (BitVec.ofInt 64 (b : Int)).toNat = b := by
  rw [BitVec.ofInt_natCast, BitVec.toNat_ofNat]; exact Nat.mod_eq_of_lt (by omega)
 show 0 ≤ IntKind.i64.wrap ((BitVec.ofInt 64 (a : Int) ^^^ BitVec.ofInt 64 (b : Int)).toNat : Int)
 rw [BitVec.toNat_xor, h1, h2, IntWalk.i64_in _ (by omega)]
 omega
theorem xor_num (x : Int) (h : 0 ≤ x) (h2 : x < 4611686018427387904) : 0 ≤ bits .xor .i64 x (x / 64) := by
 obtain ⟨n, rfl⟩ : ∃ n : Nat, x = n := ⟨x.toNat, by omega⟩
 have := xor_bd n (n / 64) (by omega) (by omega)
 simpa using this
theorem xor_mod (x n : Int) (h : 0 ≤ x) (h2 : x < 4611686018427387904) (hn : 1 ≤ n) : 0 ≤ (bits .xor .i64 x (x / 64)).tmod n ∧ (bits .xor .i64 x (x / 64)).tmod n < n := by
 have h1 := xor_num x h h2
 rw [Int.tmod_eq_emod_of_nonneg h1]
 exact ⟨Int.emod_nonneg _ (by omega), Int.emod_lt_of_pos _ (by omega)⟩

set_option maxHeartbeats 1600000 in
theorem pick_c (n : Int) (rb k : Nat) (w : World) (hr : Rd w rb k) (hk : k ≤ 1000000) :
  Calls Try.prog 52 #[.pointer (some ⟨rb, 0, none⟩), .int .i64 n] w (PNum rb (k + 1) (fun x => 0 ≤ x ∧ (x < n ∨ x = 0)) w) := by
 obtain ⟨a, m, cap, p, hp, h0, h1, h2, hb⟩ := hr.ex
 obtain ⟨hR, hC⟩ := rd_put hp h0 h1 h2 hb
 replace hR := Lib.hid hR
 replace hC := Lib.hid hC
 obtain ⟨b1, b2, b3, b4⟩ := hb
 obtain ⟨hp0, hp1⟩ := hp
 unfold maxLen at b2
 by_cases hn : n < 1
 ·
  go_enter Try.func52, Try.ntmps52
  go_wp2_with fail
  go_ret
  exact ⟨0, rfl, ⟨by omega, .inr rfl⟩, hR.out, hC.out⟩
 ·
  by_cases hm : m = 0
  ·
   subst hm
   go_enter Try.func52, Try.ntmps52
   go_wp2_with fail
   go_ret
   exact ⟨0, rfl, ⟨by omega, .inr rfl⟩, hR.out, hC.out⟩
  ·
   have hm0 : ((m : Int) == 0) = false := by simpa using hm
   obtain ⟨q, hq⟩ : ∃ q : Nat, p = q := ⟨p.toNat, by omega⟩
   subst hq
   by_cases hlt : q < m
   ·
    obtain ⟨b, off, x, rfl, hbl, hcell, hx0, hx1⟩ := b4 q hlt
    have hne : b ≠ rb := by omega
    have hne2 : rb ≠ b := by omega
    have hI : (q : Int) < m := by omega
    have g1 := Int.emod_nonneg x (show n ≠ 0 by omega)
    have g2 := Int.emod_lt_of_pos x (show 0 < n by omega)
    go_enter Try.func52, Try.ntmps52
    go_wp2_with fail
    go_ret
    exact ⟨x % n, rfl, ⟨g1, .inl g2⟩, hR.out, hC.out⟩
   ·
    have m0 : 0 < m := by omega
    have r1 := Nat.mod_lt q m0
    have r2 := Nat.mod_lt (q * 7 + 3) m0
    have r3 := Nat.div_le_self q m
    have e1 : ((q : Int)) % (m : Int) = ((q % m : Nat) : Int) := rfl
    have e2 : ((q : Int) * 7 + 3) % (m : Int) = (((q * 7 + 3) % m : Nat) : Int) := by simp
    have e3 : ((q : Int)) / (m : Int) = ((q / m : Nat) : Int) := rfl
    have t1 : ((q : Int)).tmod (m : Int) = ((q % m : Nat) : Int) := rfl
    have t2 : ((q : Int) * 7 + 3).tmod (m : Int) = (((q * 7 + 3) % m : Nat) : Int) := by rw [Int.tmod_eq_emod_of_nonneg (by omega)]; exact e2
    have t3 : ((q : Int)).tdiv (m : Int) = ((q / m : Nat) : Int) := rfl
    generalize q % m = i1 at *
    generalize (q * 7 + 3) % m = i2 at *
    generalize q / m = i3 at *
    obtain ⟨b, off, x, rfl, hbl, hcell, hx0, hx1⟩ := b4 i1 r1
    obtain ⟨_, _, y, he, hbl', hcell', hy0, hy1⟩ := b4 i2 r2
    cases he
    have hne : b ≠ rb := by omega
    have hne2 : rb ≠ b := by omega
    have hI : ¬ (q : Int) < m := by omega
    have hI1 : (i1 : Int) < m := by omega
    have hI2 : (i2 : Int) < m := by omega
    clear hI b4
    go_enter Try.func52, Try.ntmps52
    go_wp2_with fail
    go_quiet (fail)
    go_wp2_with fail
    go_ret
    have hf := xor_mod (x * 131 + y * 1117 + (q : Int) * 29 + (i3 : Int) * 53) n (by omega) (by omega) (by omega)
    exact ⟨_, rfl, ⟨hf.1, .inl hf.2⟩, hR.out.ext qXo, hC.out.ext qXo⟩

/-- one of the numbers of a list -/
theorem one_c (xs : List Int) (v : Value) (lo rb k : Nat) (w : World) (hr : Rd w rb k) (hk : k ≤ 1000000) (hv : Ints w lo v xs) (hlo : rb < lo) (hn : xs ≠ []) :
  Calls Try.prog 51 #[.pointer (some ⟨rb, 0, none⟩), v] w (PNum rb (k + 1) (fun x => x ∈ xs) w) := by
 obtain ⟨a, c, rfl⟩ := hv.form
 have hpos : 0 < xs.length := List.length_pos_iff.2 hn
 go_enter Try.func51, Try.ntmps51
 go_wp2_with fail
 refine (pick_c _ rb k _ hr hk).mono ?_
 rintro e w' ⟨x, rfl, ⟨hx0, hx1⟩, hR, hC⟩
 obtain ⟨j, rfl⟩ : ∃ j : Nat, x = j := ⟨x.toNat, by omega⟩
 have hj : j < xs.length := by omega
 obtain ⟨_, _, hv', _, _, _, hc⟩ := hv.chg hC hlo
 cases hv'
 obtain ⟨b, off, rfl, _, hcell, _⟩ := hc j hj
 have g : xs.getD j 0 = xs[j] := by simp [hj]
 rw [g] at hcell
 have hm : xs[j] ∈ xs := List.getElem_mem hj
 clear hc g hx1
 replace hR := Lib.hid hR
 replace hC := Lib.hid hC
 go_wp2_with fail
 go_ret
 exact ⟨_, rfl, hm, hR.out, hC.out⟩


theorem Ints.lit (w : World) (xs : List Int) (cs : Array Value) (n : Nat) (h : cs.toList = xs.map (Value.int .i64)) (hn : n = xs.length) (hs : xs.length ≤ 100) : Ints (w.alloc (.cells cs 3)) w.heap.size (.slice (some ⟨w.heap.size, 0, none⟩) n n) xs := by
 subst hn
 have hsz : cs.size = xs.length := by rw [← Array.length_toList, h, List.length_map]
 have := World.ownsRow_lit (base := w.heap.size) (e := 3) (size := 1) w cs xs.length (Nat.le_refl _) (by unfold maxLen; omega) (by omega)
 rw [h] at this
 exact Ints.of_own this (by omega)

/-- the bytes that the law was called with -/
def BysIn (w : World) (a : Option Addr) (n cap : Nat) : Prop :=
 n ≤ cap ∧ cap ≤ maxLen ∧ ∀ i, i < n → ∃ b off x, a = some ⟨b, off, none⟩ ∧ w.cell? ⟨b, off + i, none⟩ = some (.int .u8 x) ∧ 0 ≤ x ∧ x < 256
theorem BysIn.bys {w : World} {a : Option Addr} {n cap m : Nat} (h : BysIn w a n cap) (hm : m ≤ n) (h2 : m ≤ 2000) : Bys w w.heap.size a m cap := by
 obtain ⟨h3, h4, h5⟩ := h
 refine ⟨by omega, h4, h2, fun i hi => ?_⟩
 obtain ⟨b, off, x, ha, hc, hx⟩ := h5 i (by omega)
 exact ⟨b, off, x, ha, qB hc, hc, hx⟩

set_option maxHeartbeats 1600000 in
theorem newReader_c (a : Option Addr) (n cap : Nat) (w : World) (hb : BysIn w a n cap) :
  Calls Try.prog 38 #[.slice a n cap] w (fun e w' => e = .returned (.pointer (some ⟨w.heap.size, 0, none⟩)) ∧ Rd w' w.heap.size 0 ∧ Ext w w') := by
 have hb0 := hb
 obtain ⟨h1, h2, _⟩ := hb
 by_cases h : n ≤ 2000
 ·
  have hB := Lib.hid (hb0.bys (Nat.le_refl _) h)
  have hI : ¬ (2000 : Int) < n := by omega
  go_enter Try.func38, Try.ntmps38
  go_wp2_with fail
  go_ret
  refine ⟨rfl, ⟨a, n, cap, 0, by omega, by simp, by simp, by simp, ?_⟩, qXo⟩
  obtain ⟨g1, g2, g3, g4⟩ := hB.out
  refine ⟨g1, g2, g3, fun i hi => ?_⟩
  obtain ⟨b, off, x, ha, hbb, hc, hx⟩ := g4 i hi
  exact ⟨b, off, x, ha, hbb, ((Ext.refl w).alloc _).cell hc, hx⟩
 ·
  have hB := Lib.hid (hb0.bys (m := 2000) (by omega) (Nat.le_refl _))
  have hI : (2000 : Int) < n := by omega
  have hc1 : (2000 : Int) ≤ cap := by omega
  go_enter Try.func38, Try.ntmps38
  go_wp2_with fail
  go_ret
  refine ⟨rfl, ⟨a, 2000, cap, 0, by omega, by simp, by simp, by simp, ?_⟩, qXo⟩
  obtain ⟨g1, g2, g3, g4⟩ := hB.out
  refine ⟨g1, g2, g3, fun i hi => ?_⟩
  obtain ⟨b, off, x, ha, hbb, hc, hx⟩ := g4 i hi
  exact ⟨b, off, x, ha, hbb, ((Ext.refl w).alloc _).cell hc, hx⟩

theorem Rd.alloc {w : World} {rb k : Nat} (h : Rd w rb k) (o : Obj) : Rd (w.alloc o) rb k := h.ext ((Ext.refl _).alloc _)
theorem Rd.drew {w : World} {rb k : Nat} (h : Rd w rb k) : Rd w.drew rb k := h.ext ((Ext.refl _).drew)
theorem Rd.drewN {w : World} {rb k : Nat} (h : Rd w rb k) (n : Nat) : Rd (w.drewN n) rb k := h.ext ((Ext.refl _).drewN n)
theorem Rd.set {w : World} {rb k : Nat} {a : Addr} (h : Rd w rb k) (ha : rb < a.block) (u : Value) : Rd (w.setCell a u) rb k :=
 h.chgO ((Chg.refl a.block (a.block + 1) w).setCell (p := a) (Nat.le_refl _) (Nat.lt_succ_self _) u) ha
theorem Rd.set2 {w : World} {rb k : Nat} {a : Addr} {u : Value} (ha : rb < a.block) (h : Rd w rb k) : Rd (w.setCell a u) rb k := h.set ha u
/-- what was there before, but the reader, is as it was -/
def Rch (rb : Nat) (w w' : World) : Prop := Chg rb (rb + 1) w w'
theorem Rch.refl (rb : Nat) (w : World) : Rch rb w w := Chg.refl _ _ _
theorem Rch.step {rb : Nat} {w a b : World} (h : Rch rb w a) (k : Chg rb (rb + 1) a b) : Rch rb w b := Chg.trans h k
theorem Rch.alloc {rb : Nat} {w w' : World} (h : Rch rb w w') (o : Obj) : Rch rb w (w'.alloc o) := Chg.ext h ((Ext.refl _).alloc _)
theorem Rch.drew {rb : Nat} {w w' : World} (h : Rch rb w w') : Rch rb w w'.drew := Chg.ext h ((Ext.refl _).drew)
theorem Rch.drewN {rb : Nat} {w w' : World} (h : Rch rb w w') (n : Nat) : Rch rb w (w'.drewN n) := Chg.ext h ((Ext.refl _).drewN n)
theorem Rch.ext {rb : Nat} {w w' w'' : World} (h : Rch rb w w') (k : Ext w' w'') : Rch rb w w'' := Chg.ext h k
theorem Rch.set {rb : Nat} {w w' : World} (h : Rch rb w w') {a : Addr} (ha : w.heap.size ≤ a.block) (u : Value) : Rch rb w (w'.setCell a u) :=
 ⟨h.os, h.tape, h.output, by simpa using h.size, fun k hk hd => (Below.heap_setCell _ _ _ _ (by omega)).trans (h.block k hk hd)⟩
theorem Rch.size {rb : Nat} {w w' : World} (h : Rch rb w w') : w.heap.size ≤ w'.heap.size := Chg.size h
theorem Rch.rule {rb : Nat} {w w' : World} (h : Chg rb (rb + 1) w w') : ∀ b o, rb < b → b < w.heap.size → w'.cell? ⟨b, o, none⟩ = w.cell? ⟨b, o, none⟩ := fun b o h1 h2 => World.cell?_of_block (a := ⟨b, o, none⟩) (h.block b h2 (.inr h1))
theorem Rch.frule {rb : Nat} {w w' : World} (h : Chg rb (rb + 1) w w') : ∀ b o, rb < b → b < w.heap.size → w'.frozen? ⟨b, o, none⟩ = w.frozen? ⟨b, o, none⟩ := fun b o h1 h2 => World.frozen?_of_block (a := ⟨b, o, none⟩) (h.block b h2 (.inr h1))

/-- the ints of a literal -/
def litL (cs : Array Value) : List Int := cs.toList.filterMap fun | .int .i64 x => some x | _ => none
def litB (cs : Array Value) : Bool := cs.toList.all fun | .int .i64 _ => true | _ => false
theorem litL_map {l : List Value} (h : (l.all fun | .int .i64 _ => true | _ => false) = true) : l = (l.filterMap fun | .int .i64 x => some x | _ => none).map (Value.int .i64) := by
 induction l with
 | nil => rfl
 | cons c l ih =>
  rw [List.all_cons, Bool.and_eq_true] at h
  have h2 := ih h.2
  have h1 := h.1
  split at h1
  ·
   rw [List.filterMap_cons, List.map_cons, ← h2]
  ·
   cases h1
theorem Ints.litB {w : World} {cs : Array Value} {n b : Nat} (h : litB cs = true) (hn : n = cs.size) (hs : cs.size ≤ 100) (hb : b = w.heap.size) : Ints (w.alloc (.cells cs 3)) w.heap.size (.slice (some ⟨b, 0, none⟩) n n) (litL cs) := by
 subst hb
 have e := litL_map h
 have hl : (litL cs).length = cs.size := by
  have := congrArg List.length e
  rw [List.length_map] at this
  rw [litL, ← this]; simp
 exact Ints.lit w (litL cs) cs n e (by omega) (by omega)

theorem oneLit_c (cs : Array Value) (n b rb k : Nat) (w : World) (hr : Rd w rb k) (hk : k ≤ 1000000) (h : litB cs = true) (hn : n = cs.size) (hs : 0 < cs.size ∧ cs.size ≤ 100) (hb : b = w.heap.size) :
  Calls Try.prog 51 #[.pointer (some ⟨rb, 0, none⟩), .slice (some ⟨b, 0, none⟩) n n] (w.alloc (.cells cs 3)) (PNum rb (k + 1) (fun x => x ∈ litL cs) (w.alloc (.cells cs 3))) := by
 have hi := Ints.litB (w := w) h hn hs.2 hb
 refine one_c (litL cs) _ w.heap.size rb k _ (hr.alloc _) hk hi hr.lt fun h0 => ?_
 have e := litL_map h
 have : cs.toList.length = 0 := by rw [e]; unfold litL at h0; rw [h0]; rfl
 simp at this
 have := hs.1
 simp_all

theorem pick1_c (n : Int) (rb k : Nat) (w : World) (hr : Rd w rb k) (hk : k ≤ 1000000) (hn : 1 ≤ n) :
  Calls Try.prog 52 #[.pointer (some ⟨rb, 0, none⟩), .int .i64 n] w (PNum rb (k + 1) (fun x => 0 ≤ x ∧ x < n) w) :=
 (pick_c n rb k w hr hk).mono fun _ _ ⟨x, h1, ⟨h2, h3⟩, h4⟩ => ⟨x, h1, ⟨h2, by omega⟩, h4⟩

/-- three numbers at a block -/
def RgAt (w : World) (g : Nat) : Prop := ∃ x y z : Int, w.cell? ⟨g, 0, none⟩ = some (.int .i64 x) ∧ w.cell? ⟨g, 1, none⟩ = some (.int .i64 y) ∧ w.cell? ⟨g, 2, none⟩ = some (.int .i64 z) ∧ w.frozen? ⟨g, 0, none⟩ = false ∧ w.frozen? ⟨g, 1, none⟩ = false ∧ w.frozen? ⟨g, 2, none⟩ = false
theorem RgAt.lt {w : World} {g : Nat} (h : RgAt w g) : g < w.heap.size := by obtain ⟨x, y, z, h, _⟩ := h; exact qB h

theorem BysIn.ext {w w' : World} {a : Option Addr} {n cap : Nat} (h : BysIn w a n cap) (hx : Ext w w') : BysIn w' a n cap := by
 obtain ⟨h1, h2, h3⟩ := h
 refine ⟨h1, h2, fun i hi => ?_⟩
 obtain ⟨b, off, x, ha, hc, hx2⟩ := h3 i hi
 exact ⟨b, off, x, ha, hx.cell hc, hx2⟩

theorem Rch.toExt' {rb : Nat} {w0 w w' : World} (h : Chg rb (rb + 1) w w') (hb : w0.heap.size ≤ rb) (hx : Ext w0 w) : Ext w0 w' := hx.chg h hb

end Go.Proofs.Ytpgkhjmboiepcaa
