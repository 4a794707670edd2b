/- Texts of these proofs put together: Mem, ViewA, ViewB, ViewC, SpA, SpB, Shelf, PureA, Lib, ViewD, ViewE, ViewF, PureB, ViewG, LwA, Copy, LwB, LwC, LwD, Lp, ExI, MemA, ExJ, ExD, ExG, RngA, PureC, ExK, ExL, ExM, SvA, SvB, SvC, PureV, PureW, PureX, PureY, RngB, RngC, SlA, PureZ, Rg, GenA, RgL, Kit, SvE, SvF, SvG, SvD, SvH, KitB, SvI, GenB, GenC, GenD, SvJ, SvL, SvK, SvM, Open, OpenB, DrA, DrB, Facts. No condition. -/
import Derived.Test.YtpgkhjmboiepcaaProg
import Derived.WalkKit
import Derived.WalkSpells
import Derived.WalkLawsBesides
import Derived.BigQuiet
import Derived.Deep.QuietTactic
import Derived.Deep.RegionLaw
import Derived.Deep.AppendLies
import Derived.Deep.RegionHeld3
import Derived.Deep.DeepFit
import Derived.Lib.Hide
import Derived.Maps.AppendAt
import Derived.Shelf.Small.Bits
import Derived.Shelf.Strconv.Itoa0
import Derived.Shelf.Sort.Plain
import Derived.Shelf.Slices.Turned
import Derived.Ground.Names2Prog
import Derived.Shelf.Slices.CompactI
import Derived.Shelf.Slices.SearchI
import Derived.Shelf.Slices.Cells
import Derived.Shelf.Slices.In.SortNone
import Derived.Lib.SlicesCompact
import Derived.Sort.OwnSortedInts
import Derived.StillTail
import Derived.Deep.DeepCutAuto
import Derived.Deep.CutBlock
import Derived.StillTailTactics
import Derived.Test.YtpgkhjmboiepcaaRows
import Derived.ProofKit
import Derived.OpenShut
import Derived.ShutString
import Derived.ChangeOld
import Derived.Below
import Derived.Lib.SmallJoins
import Derived.KernelRfl
import Derived.JoinedOf
set_option linter.unusedVariables false
set_option linter.unusedSimpArgs false
/- Words for memory: worlds that only grew, slices of ints that read as lists. Its conditions: none. -/
namespace Go.Proofs.Ytpgkhjmboiepcaa
open Go.RowKit

theorem qXt {p : Prop} (h : p := by repeat (first | (with_reducible assumption) | (with_reducible refine Ext.setCell ?_ (by first | (simp; done) | (simp; omega) | omega) _) | (with_reducible apply Ext.alloc) | (with_reducible apply Ext.drew) | (with_reducible apply Ext.drewN) | (with_reducible exact Ext.refl _))) : p := h
theorem qCl {p : Prop} (h : p := by first | (simp; done) | ((repeat rw [World.cell?_alloc_lt _ _ _ (by simp <;> omega)]); simp; done) | (go_simp; done)) : p := h
theorem qKr {p : Prop} (h : p := by kernel_rfl) : p := h
theorem qSo {p : Prop} (h : p := by first | (simp; done) | (simp; omega) | omega) : p := h
theorem qXo {p : Prop} (h : p := by repeat (first | exact Ext.refl _ | assumption | apply Ext.drewN | apply Ext.drew | apply Ext.alloc)) : p := h
theorem qFz {p : Prop} (h : p := by first | (simp; done) | (go_simp; done)) : p := h
theorem qB {w : World} {a : Addr} {v : Value} (h : w.cell? a = some v) : a.block < w.heap.size := World.block_lt_of_cell? _ _ h
theorem qa : type_of% @List.setIfInBounds_toArray := @List.setIfInBounds_toArray
theorem qb : type_of% @List.set_cons_zero := @List.set_cons_zero
theorem qc : type_of% @List.set_cons_succ := @List.set_cons_succ
theorem qD : type_of% @List.getElem_toArray := @List.getElem_toArray
theorem qE : type_of% @List.getElem_cons_succ := @List.getElem_cons_succ
theorem qF : type_of% @List.getElem_cons_zero := @List.getElem_cons_zero
section
variable {P : Program} {ops : Array Oper} {Q : Exit → Act → World → Prop} {md : Region.Mode} {S : World → Prop}
theorem qHk {oi : Oper} {v : Value} {fuel : Nat} {listed : Array Bool} {a : Act} {w : World} (i : Nat) (hi : ops[i]? = some oi) (hy : YieldsIf P ops S oi v a)
  (h : wpAnyH P md ops Q S fuel (listed.setIfInBounds i true) (a.put oi.dst v) w)
  (hs : Region.noSelect ops = true := by kernel_rfl) (hf : Region.free md ops listed i = true := by kernel_rfl) (hr : (Region.ready md ops listed).contains i = true := by kernel_rfl)
  (hQ : ∀ c a w, Q (.panic c) (a.put oi.dst v) w → Q (.panic c) a w := by exact fun _ _ _ h => h) (hS : S w := by assumption) :
  wpAnyH P md ops Q S (fuel + 1) listed a w := wpAnyH_take hi hs hf hr hQ hy hS h
theorem qHr {fuel : Nat} {listed : Array Bool} {a : Act} {w : World} {o : Oper} (i : Nat) (ho : ops[i]? = some o)
  (h : ∀ K' : Act → World → Prop, Shut (∀ a w, S w → (S w → wpAnyH P md ops Q S fuel (listed.setIfInBounds i true) a w) → K' a w) → if Region.wanted o (yielded ops a.tmps) = true then Oper.wp P o a w K' Q else K' (a.put o.dst undef) w)
  (hr : Region.ready md ops listed = [i] := by kernel_rfl) : wpAnyH P md ops Q S (fuel + 1) listed a w :=
 wpAnyH_ready hr (by simp) (AllReadyH.cons ho h AllReadyH.nil)
end

/-- what a call that writes nothing old leaves: the old blocks as they were -/
def Ext (w w' : World) : Prop := Below w.heap.size w w'

theorem Ext.refl (w : World) : Ext w w := Below.refl _ _
theorem Ext.trans {a b c : World} (h : Ext a b) (k : Ext b c) : Ext a c := Below.trans h (Below.mono k h.size)
theorem Ext.alloc {a w : World} (h : Ext a w) (o : Obj) : Ext a (w.alloc o) := Below.alloc h h.size o
theorem Ext.drew {a w : World} (h : Ext a w) : Ext a w.drew := Below.drew h
theorem Ext.drewN {a w : World} (h : Ext a w) (n : Nat) : Ext a (w.drewN n) := ⟨h.os, h.tape, h.output, h.size, h.block⟩
theorem Ext.setCell {a w : World} (h : Ext a w) {p : Addr} (hp : a.heap.size ≤ p.block) (u : Value) : Ext a (w.setCell p u) := Below.setCell h hp u
theorem Ext.grown {a w w' : World} {row : Option Nat} (h : Ext a w) (hg : w.grownBy w' row) (hr : ∀ k, row = some k → a.heap.size ≤ k) : Ext a w' := Below.grown h hg h.size hr
theorem Ext.cell {w w' : World} (h : Ext w w') {p : Addr} {v : Value} (hc : w.cell? p = some v) : w'.cell? p = some v :=
 (Below.cell h (World.block_lt_of_cell? _ _ hc)).trans hc
theorem Ext.rule {w w' : World} (h : Ext w w') : ∀ b o, b < w.heap.size → w'.cell? ⟨b, o, none⟩ = w.cell? ⟨b, o, none⟩ := fun b o hb => Below.cell (p := ⟨b, o, none⟩) h hb
theorem Ext.frule {w w' : World} (h : Ext w w') : ∀ b o, b < w.heap.size → w'.frozen? ⟨b, o, none⟩ = w.frozen? ⟨b, o, none⟩ := fun b o hb => Below.frozen (p := ⟨b, o, none⟩) h hb

/-- the slice value v reads as the ints xs; its cells lie in blocks from lo on, unfrozen -/
def Ints (w : World) (lo : Nat) (v : Value) (xs : List Int) : Prop :=
 ∃ a cap, v = .slice a xs.length cap ∧ xs.length ≤ cap ∧ cap ≤ maxLen ∧ (xs.length ≤ 4194304 ∧ (a = none → cap = 0)) ∧
  ∀ i, i < xs.length → ∃ b off, a = some ⟨b, off, none⟩ ∧ lo ≤ b ∧ w.cell? ⟨b, off + i, none⟩ = some (.int .i64 (xs.getD i 0)) ∧ w.frozen? ⟨b, off + i, none⟩ = false

theorem Ints.ext {w w' : World} {lo : Nat} {v : Value} {xs : List Int} (h : Ints w lo v xs) (hx : Ext w w') : Ints w' lo v xs := by
 obtain ⟨a, cap, hv, h1, h2, h3, h4⟩ := h
 refine ⟨a, cap, hv, h1, h2, h3, fun i hi => ?_⟩
 obtain ⟨b, off, ha, hl, hc, hf⟩ := h4 i hi
 exact ⟨b, off, ha, hl, hx.cell hc, (Below.frozen (p := ⟨b, off + i, none⟩) hx (World.block_lt_of_cell? _ _ hc)).trans hf⟩

theorem Ints.lower {w : World} {lo lo' : Nat} {v : Value} {xs : List Int} (h : Ints w lo v xs) (hl : lo' ≤ lo) : Ints w lo' v xs := by
 obtain ⟨a, cap, hv, h1, h2, h3, h4⟩ := h
 refine ⟨a, cap, hv, h1, h2, h3, fun i hi => ?_⟩
 obtain ⟨b, off, ha, hl', hc, hf⟩ := h4 i hi
 exact ⟨b, off, ha, by omega, hc, hf⟩

theorem Ints.nil (w : World) (lo cap : Nat) (a : Option Addr) (hc : cap ≤ maxLen) (ha : a = none → cap = 0) : Ints w lo (.slice a 0 cap) [] :=
 ⟨a, cap, rfl, by simp, hc, ⟨by simp, ha⟩, fun i hi => absurd hi (by simp)⟩

/-- an owned row of ints reads as its list -/
theorem Ints.of_own {w : World} {base E : Nat} {v : Value} {n : Nat} {xs : List Int} (h : w.ownsRow base E 1 v n (xs.map (Value.int .i64))) (hn : xs.length ≤ 4194304) : Ints w base v xs := by
 have hl : xs.length = n := by simpa using h.1
 subst hl
 rcases h.2 with ⟨rfl, h0⟩ | ⟨g, cap, cur, rfl, hb, hg, hnc, hcm, hcs, ht⟩
 ·
  obtain rfl : xs = [] := List.eq_nil_of_length_eq_zero h0
  exact Ints.nil _ _ _ _ (by simp) (fun _ => rfl)
 ·
  refine ⟨_, cap, rfl, hnc, hcm, ⟨hn, fun h => by cases h⟩, fun i hi => ⟨g, 0, rfl, hb, ?_, ?_⟩⟩
  ·
   have := World.ownsRow.cells h (g := g) rfl i (.int .i64 (xs.getD i 0)) (by simp [hi])
   have e : (⟨g, 0, none⟩ : Addr).add i = ⟨g, 0 + i, none⟩ := by unfold Addr.add; split <;> simp_all
   rw [e] at this
   exact this
  ·
   simpa using World.ownsRow.frozenAt h i

theorem infoInt : (Try.prog.info? 3).map (fun i => (i.zero, i.size, i.bytes)) = some (some (.int .i64 0), 1, 8) := by kernel_rfl

/-- a store into an owned row of ints -/
theorem own_set {w : World} {B E g cap n : Nat} {xs : List Int} (h : w.ownsRow B E 1 (.slice (some ⟨g, 0, none⟩) n cap) n (xs.map (Value.int .i64))) (k : Nat) (x : Int) (_hk : k < n) :
  (w.setCell ⟨g, k, none⟩ (.int .i64 x)).ownsRow B E 1 (.slice (some ⟨g, 0, none⟩) n cap) n ((xs.set k x).map (Value.int .i64)) := by
 have := (World.ownsRow.stored h k (.int .i64 x)).1
 rwa [List.map_set]

theorem own_len {w : World} {B E n : Nat} {v : Value} {xs : List Int} (h : w.ownsRow B E 1 v n (xs.map (Value.int .i64))) : xs.length = n := by simpa using h.1

theorem own_cell {w : World} {B E g cap n : Nat} {xs : List Int} (h : w.ownsRow B E 1 (.slice (some ⟨g, 0, none⟩) n cap) n (xs.map (Value.int .i64))) (k : Nat) (hk : k < n) :
  w.cell? ⟨g, k, none⟩ = some (.int .i64 (xs.getD k 0)) ∧ w.frozen? ⟨g, k, none⟩ = false := by
 refine ⟨?_, World.ownsRow.frozenAt h k⟩
 rw [World.ownsRow.cellAt h k (by omega)]
 have := own_len h
 simp [show k < xs.length by omega]

theorem made_ints (n : Nat) : (madeCells #[Value.int .i64 0] n).toList = (List.replicate n (0 : Int)).map (Value.int .i64) := by
 rw [toList_madeCells_one]; simp

theorem own_ext {w w' : World} {B E n : Nat} {v : Value} {xs : List Value} (h : w.ownsRow B E 1 v n xs) (hx : Ext w w') : w'.ownsRow B E 1 v n xs := by
 refine ⟨h.1, ?_⟩
 rcases h.2 with h2 | ⟨g, cap, cur, hv, hg, hh, r⟩
 ·
  exact .inl h2
 ·
  exact .inr ⟨g, cap, cur, hv, hg, (hx.block g (Array.getElem?_eq_some_iff.1 hh).1).trans hh, r⟩


/-- an owned row of ints -/
def OwnI (w : World) (base : Nat) (v : Value) (xs : List Int) : Prop := w.ownsRow base 3 1 v xs.length (xs.map (Value.int .i64))

theorem OwnI.ints {w : World} {base : Nat} {v : Value} {xs : List Int} (h : OwnI w base v xs) (hn : xs.length ≤ 4194304) : Ints w base v xs := Ints.of_own h hn
theorem OwnI.ext {w w' : World} {base : Nat} {v : Value} {xs : List Int} (h : OwnI w base v xs) (hx : Ext w w') : OwnI w' base v xs := own_ext h hx
theorem OwnI.lit0 (w : World) (base : Nat) (hb : base ≤ w.heap.size) : OwnI (w.alloc (.cells #[] 3)) base (.slice (some ⟨w.heap.size, 0, none⟩) 0 0) [] :=
 World.ownsRow_lit w #[] 0 hb (by simp) rfl
theorem OwnI.nil (w : World) (base : Nat) : OwnI w base (.slice none 0 0) [] := World.ownsRow_nil _ _ _ _

theorem OwnI.lower {w : World} {base base' : Nat} {v : Value} {xs : List Int} (h : OwnI w base v xs) (hb : base' ≤ base) : OwnI w base' v xs :=
 ⟨h.1, h.2.imp id fun ⟨g, cap, cur, hv, hg, r⟩ => ⟨g, cap, cur, hv, Nat.le_trans hb hg, r⟩⟩

/-- an owned row of ints, or nothing at all -/
def OwnZ (w : World) (base : Nat) (v : Value) (xs : List Int) : Prop := (xs = [] ∧ ∃ a cap, v = .slice a 0 cap ∧ cap ≤ maxLen ∧ (a = none → cap = 0)) ∨ OwnI w base v xs
theorem OwnI.z {w : World} {base : Nat} {v : Value} {xs : List Int} (h : OwnI w base v xs) : OwnZ w base v xs := .inr h
theorem OwnZ.lower {w : World} {base base' : Nat} {v : Value} {xs : List Int} (h : OwnZ w base v xs) (hb : base' ≤ base) : OwnZ w base' v xs := h.imp id (fun h => h.lower hb)
theorem OwnZ.ext {w w' : World} {base : Nat} {v : Value} {xs : List Int} (h : OwnZ w base v xs) (hx : Ext w w') : OwnZ w' base v xs := h.imp id (fun h => h.ext hx)
theorem OwnZ.ints {w : World} {base : Nat} {v : Value} {xs : List Int} (h : OwnZ w base v xs) (hn : xs.length ≤ 4194304) : Ints w base v xs := by
 rcases h with ⟨rfl, a, cap, rfl, hc, ha⟩ | h
 ·
  exact Ints.nil _ _ _ _ hc ha
 ·
  exact h.ints hn

/-- a call hands back a new slice of these ints -/
def PInts (w : World) (xs : List Int) (e : Ending) (w' : World) : Prop := ∃ v, e = .returned v ∧ Ints w' w.heap.size v xs ∧ OwnZ w' w.heap.size v xs ∧ Ext w w'
theorem PInts.mk {w w' : World} {base : Nat} {xs : List Int} {v : Value} (h : OwnI w' base v xs) (hb : w.heap.size ≤ base) (hn : xs.length ≤ 4194304) (hx : Ext w w') : PInts w xs (.returned v) w' :=
 ⟨v, rfl, (h.lower hb).ints hn, (h.lower hb).z, hx⟩
theorem PInts.mkz {w w' : World} {base : Nat} {xs : List Int} {v : Value} (h : OwnZ w' base v xs) (hb : w.heap.size ≤ base) (hn : xs.length ≤ 4194304) (hx : Ext w w') : PInts w xs (.returned v) w' :=
 ⟨v, rfl, (h.lower hb).ints hn, (h.lower hb), hx⟩

theorem below_grownR {w w' : World} {base E size n : Nat} {v : Value} {xs : List Value} (h : w.ownsRow base E size v n xs) (hg : w.grownBy w' v.ownBlock) (hb : base ≤ w.heap.size) : Below base w w' :=
 (Below.refl base w).grown hg hb fun k hk => (World.ownsRow.lt h k hk).1

/-- the cells that an append takes -/
def SrcR (w : World) (size : Nat) (src : Value) (m : Nat) (news : List Value) : Prop :=
 ∃ a cap, src = .slice a m cap ∧ (a = none → m = 0 ∧ cap = 0) ∧ (∀ ad, a = some ad → ∀ j u, news[j]? = some u → w.cell? (ad.add j) = some u) ∧ news.length = m * size ∧ ∀ u ∈ news, u.oneCell' = true

theorem Ints.src {w : World} {lo : Nat} {v : Value} {ys : List Int} (h : Ints w lo v ys) : SrcR w 1 v ys.length (ys.map (Value.int .i64)) := by
 obtain ⟨a, cap, rfl, h1, h2, ⟨_, h3⟩, h4⟩ := h
 refine ⟨a, cap, rfl, fun h => ⟨by have := h3 h; omega, h3 h⟩, ?_, by simp, by intro u hu; simp at hu; obtain ⟨x, _, rfl⟩ := hu; rfl⟩
 rintro ad rfl j u hu
 have hj : j < ys.length := by
  rcases Nat.lt_or_ge j ys.length with h | h
  ·
   exact h
  ·
   rw [List.getElem?_eq_none (by simpa using h)] at hu; cases hu
 obtain ⟨b, off, ha, _, hc, _⟩ := h4 j hj
 cases ha
 have e : (⟨b, off, none⟩ : Addr).add j = ⟨b, off + j, none⟩ := by unfold Addr.add; split <;> simp_all
 rw [e, hc]
 simp [hj] at hu ⊢
 exact hu

section
variable {T E size bytes : Nat} {z : Value} {w : World} {base n m : Nat} {v src : Value} {xs news : List Value}

theorem run_appR (hT : Try.prog.underlying T = some (.slice E)) (hI : (Try.prog.info? E).map (fun i => (i.zero, i.size, i.bytes)) = some (some z, size, bytes)) (hzs : z.cells.size = size) (hsz : 0 < size) (ty : TypeId)
  (h : w.ownsRow base E size v n xs) (hs : SrcR w size src m news) (h63 : n + m ≤ 4194304) (hbytes : (n + m) * bytes ≤ 140737488355328) (hb : base ≤ w.heap.size) :
  ∃ v' w', (Builtin.append_ #[T, T] ty #[v, src]).run Try.prog w = .ok v' w' ∧ w'.ownsRow base E size v' (n + m) (xs ++ news) ∧ w.grownBy w' v.ownBlock ∧ Below base w w' ∧ (v'.ownBlock = v.ownBlock ∨ v'.ownBlock = some w.heap.size) := by
 obtain ⟨i0, hi, hz0, hz1, hz2⟩ := info_parts hI
 obtain ⟨a, cap, rfl, h3, h4, h5, h6⟩ := hs
 cases a with
 | none =>
  obtain ⟨rfl, rfl⟩ := h3 rfl
  obtain rfl : news = [] := List.eq_nil_of_length_eq_zero (by omega)
  exact ⟨v, w, run_append_owned_none (P := Try.prog) w base _ ty E i0 size hT hi v _ _ h, by simpa using h, World.grownBy.refl _ _, Below.refl _ _, .inl rfl⟩
 | some ad =>
  obtain ⟨v', w', hr, ho, hg, _, h7⟩ := run_append_own_at (P := Try.prog) w base T ty E i0 z size bytes hT hi hz0 hz1 hz2 hzs hsz v n xs h ad m cap news h5 (h4 ad rfl) h6 (by unfold maxLen; omega) hbytes hb
  exact ⟨v', w', hr, ho, hg, below_grownR h hg hb, h7⟩

theorem wp_appR (hT : Try.prog.underlying T = some (.slice E)) (hI : (Try.prog.info? E).map (fun i => (i.zero, i.size, i.bytes)) = some (some z, size, bytes)) (hzs : z.cells.size = size) (hsz : 0 < size)
  {o : Oper} {a : Act} {K : Act → World → Prop} {Q : Exit → Act → World → Prop} (s x : Operand)
  (ho : o.op = .call { callee := .builtin .append, args := #[s, x], argTypes := #[T, T] })
  (hs : a.eval s = v) (hx : a.eval x = src) (h : w.ownsRow base E size v n xs) (hsrc : SrcR w size src m news) (h63 : n + m ≤ 4194304) (hbytes : (n + m) * bytes ≤ 140737488355328) (hb : base ≤ w.heap.size)
  (hK : ∀ v' w', w'.ownsRow base E size v' (n + m) (xs ++ news) → w.grownBy w' v.ownBlock → Below base w w' → (v'.ownBlock = v.ownBlock ∨ v'.ownBlock = some w.heap.size) → K (a.put o.dst v') w') : o.wp Try.prog a w K Q := by
 obtain ⟨v', w', hr, h1, h2, h3, h4⟩ := run_appR hT hI hzs hsz o.type h hsrc h63 hbytes hb
 unfold Oper.wp execOp
 simp only [ho, resolve, invoke, builtin, Sem.run_bind, Sem.run_pure, Result.andThen_ok, List.map_toArray, List.map_cons, List.map_nil, hs, hx, hr]
 exact hK v' w' h1 h2 h3 h4

theorem wpList_appR (hT : Try.prog.underlying T = some (.slice E)) (hI : (Try.prog.info? E).map (fun i => (i.zero, i.size, i.bytes)) = some (some z, size, bytes)) (hzs : z.cells.size = size) (hsz : 0 < size)
  {ops : Array Oper} {rest : List Oper} {o : Oper} {a : Act} {Q : Exit → Act → World → Prop} (hgd : o.guard = none) (s x : Operand)
  (ho : o.op = .call { callee := .builtin .append, args := #[s, x], argTypes := #[T, T] })
  (hs : a.eval s = v) (hx : a.eval x = src) (h : w.ownsRow base E size v n xs) (hsrc : SrcR w size src m news) (h63 : n + m ≤ 4194304) (hbytes : (n + m) * bytes ≤ 140737488355328) (hb : base ≤ w.heap.size)
  (hK : ∀ v' w', w'.ownsRow base E size v' (n + m) (xs ++ news) → w.grownBy w' v.ownBlock → Below base w w' → (v'.ownBlock = v.ownBlock ∨ v'.ownBlock = some w.heap.size) → wpList Try.prog ops Q rest (a.put o.dst v') w') : wpList Try.prog ops Q (o :: rest) a w :=
 wpList_plain hgd fun _ hK' => wp_appR hT hI hzs hsz s x ho hs hx h hsrc h63 hbytes hb fun v' w' h1 h2 h3 h4 => hK' _ _ (hK v' w' h1 h2 h3 h4)

theorem step_appR (hT : Try.prog.underlying T = some (.slice E)) (hI : (Try.prog.info? E).map (fun i => (i.zero, i.size, i.bytes)) = some (some z, size, bytes)) (hzs : z.cells.size = size) (hsz : 0 < size)
  {ops : Array Oper} {o : Oper} {a : Act} {K : Act → World → Prop} {Q : Exit → Act → World → Prop} {F : Prop} (hgd : o.guard = none) (s x : Operand)
  (ho : o.op = .call { callee := .builtin .append, args := #[s, x], argTypes := #[T, T] })
  (hs : a.eval s = v) (hx : a.eval x = src) (h : w.ownsRow base E size v n xs) (hsrc : SrcR w size src m news) (h63 : n + m ≤ 4194304) (hbytes : (n + m) * bytes ≤ 140737488355328) (hb : base ≤ w.heap.size)
  (hK : ∀ v' w', w'.ownsRow base E size v' (n + m) (xs ++ news) → w.grownBy w' v.ownBlock → Below base w w' → (v'.ownBlock = v.ownBlock ∨ v'.ownBlock = some w.heap.size) → K (a.put o.dst v') w') :
  if Region.wanted o (yielded ops a.tmps) = true then Oper.wp Try.prog o a w K Q else F := by
 have hw : Region.wanted o (yielded ops a.tmps) = true := by simp [Region.wanted, hgd]
 rw [if_pos hw]
 exact wp_appR hT hI hzs hsz s x ho hs hx h hsrc h63 hbytes hb hK
end

section
variable {w : World} {base lo : Nat} {v src : Value} {xs ys : List Int}
theorem OwnI.of_app {w' : World} {v' : Value} (h : w'.ownsRow base 3 1 v' (xs.length + ys.length) (xs.map (Value.int .i64) ++ ys.map (Value.int .i64))) : OwnI w' base v' (xs ++ ys) := by
 unfold OwnI; rw [List.length_append, List.map_append]; exact h

theorem wpList_app {ops : Array Oper} {rest : List Oper} {o : Oper} {a : Act} {Q : Exit → Act → World → Prop} (hgd : o.guard = none) (s x : Operand)
  (ho : o.op = .call { callee := .builtin .append, args := #[s, x], argTypes := #[23, 23] })
  (hs : a.eval s = v) (hx : a.eval x = src) (h : OwnI w base v xs) (hsrc : Ints w lo src ys) (hn : xs.length + ys.length ≤ 4194304) (hb : base ≤ w.heap.size)
  (hK : ∀ v' w', OwnI w' base v' (xs ++ ys) → w.grownBy w' v.ownBlock → Below base w w' → (v'.ownBlock = v.ownBlock ∨ v'.ownBlock = some w.heap.size) → wpList Try.prog ops Q rest (a.put o.dst v') w') : wpList Try.prog ops Q (o :: rest) a w :=
 wpList_appR Try.underlying23 infoInt rfl (by decide) hgd s x ho hs hx h hsrc.src hn (by omega) hb fun v' w' h1 => hK v' w' (OwnI.of_app h1)

theorem step_app {ops : Array Oper} {o : Oper} {a : Act} {K : Act → World → Prop} {Q : Exit → Act → World → Prop} {F : Prop} (hgd : o.guard = none) (s x : Operand)
  (ho : o.op = .call { callee := .builtin .append, args := #[s, x], argTypes := #[23, 23] })
  (hs : a.eval s = v) (hx : a.eval x = src) (h : OwnI w base v xs) (hsrc : Ints w lo src ys) (hn : xs.length + ys.length ≤ 4194304) (hb : base ≤ w.heap.size)
  (hK : ∀ v' w', OwnI w' base v' (xs ++ ys) → w.grownBy w' v.ownBlock → Below base w w' → (v'.ownBlock = v.ownBlock ∨ v'.ownBlock = some w.heap.size) → K (a.put o.dst v') w') :
  if Region.wanted o (yielded ops a.tmps) = true then Oper.wp Try.prog o a w K Q else F :=
 step_appR Try.underlying23 infoInt rfl (by decide) hgd s x ho hs hx h hsrc.src hn (by omega) hb fun v' w' h1 => hK v' w' (OwnI.of_app h1)

end

/-- the one cell that 'append(out, x)' lays first -/
theorem Ints.one (w : World) (lo : Nat) (x : Int) (hl : lo ≤ w.heap.size) : Ints (w.alloc (.cells #[.int .i64 x] 3)) lo (.slice (some ⟨w.heap.size, 0, none⟩) 1 1) [x] :=
 (OwnI.ints (World.ownsRow_lit w #[.int .i64 x] 1 hl (by decide) rfl : OwnI _ lo _ [x]) (by simp))

theorem Ext.below {a w w' : World} {B : Nat} (h : Ext a w) (k : Below B w w') (hB : a.heap.size ≤ B) : Ext a w' := Below.trans h (k.mono hB)
theorem below_cell {B : Nat} {w w' : World} (h : Below B w w') {b o : Nat} {v : Value} (hb : b < B) (hc : w.cell? ⟨b, o, none⟩ = some v) : w'.cell? ⟨b, o, none⟩ = some v :=
 (Below.cell (p := ⟨b, o, none⟩) h hb).trans hc

section
variable {w : World} {src : Value} {ys : List Int} {lo : Nat}
end

theorem OwnZ.form {w : World} {base : Nat} {v : Value} {xs : List Int} (h : OwnZ w base v xs) : ∃ a n c, v = .slice a n c := by
 rcases h with ⟨_, a, cap, rfl, _⟩ | h
 ·
  exact ⟨_, _, _, rfl⟩
 ·
  rcases h.2 with ⟨rfl, _⟩ | ⟨g, cap, cur, rfl, _⟩ <;> exact ⟨_, _, _, rfl⟩
theorem Ints.form {w : World} {base : Nat} {v : Value} {xs : List Int} (h : Ints w base v xs) : ∃ a c, v = .slice a xs.length c := by
 obtain ⟨a, cap, rfl, _⟩ := h; exact ⟨_, _, rfl⟩

def Drawn (w w' : World) : Prop := ∃ m, w' = w.drewN m
theorem Drawn.refl (w : World) : Drawn w w := ⟨0, rfl⟩
theorem Drawn.drewN {a w : World} (h : Drawn a w) (n : Nat) : Drawn a (w.drewN n) := by obtain ⟨m, rfl⟩ := h; exact ⟨m + n, by rw [World.drewN_drewN]⟩
theorem Drawn.ext {a w : World} (h : Drawn a w) : Ext a w := by obtain ⟨m, rfl⟩ := h; exact (Ext.refl _).drewN _
theorem Ints.take {w : World} {lo : Nat} {a : Option Addr} {n c : Nat} {xs : List Int} (h : Ints w lo (.slice a n c) xs) (k : Nat) (hk : k ≤ n) : Ints w lo (.slice a k c) (xs.take k) := by
 obtain ⟨a', cap, hv, h1, h2, ⟨h3, h3'⟩, h4⟩ := h
 cases hv
 have hl : (xs.take k).length = k := by simp; omega
 refine ⟨a, c, by rw [hl], by omega, h2, ⟨by omega, h3'⟩, fun i hi => ?_⟩
 obtain ⟨b, off, ha, hb, hc, hf⟩ := h4 i (by omega)
 refine ⟨b, off, ha, hb, ?_, hf⟩
 rw [hc]; simp [show i < k by omega]

theorem OwnZ.lt {w : World} {base : Nat} {v : Value} {xs : List Int} (h : OwnZ w base v xs) (hn : xs ≠ []) : ∃ g, v.ownBlock = some g ∧ base ≤ g ∧ g < w.heap.size := by
 rcases h with ⟨h, _⟩ | h
 ·
  exact absurd h hn
 ·
  obtain ⟨g, cap, rfl, hb, hg⟩ := World.ownsRow.form h (by cases xs <;> simp_all)
  exact ⟨g, rfl, hb, hg⟩

/-- a slice that is only read, while another row grows -/
theorem Ints.keepG {w w' : World} {lo : Nat} {a : Option Addr} {n c : Nat} {xs : List Int} {row : Option Nat} (h : Ints w lo (.slice a n c) xs) (hg : w.grownBy w' row) (hne : ∀ b off, a = some ⟨b, off, none⟩ → xs ≠ [] → row ≠ some b) : Ints w' lo (.slice a n c) xs := by
 obtain ⟨a', cap, hv, h1, h2, h3, h4⟩ := h
 cases hv
 refine ⟨a, c, rfl, h1, h2, h3, fun i hi => ?_⟩
 obtain ⟨b, off, ha, hb, hc, hf⟩ := h4 i hi
 have hlt := World.block_lt_of_cell? _ _ hc
 have hn := hne b off ha (by intro h; subst h; simp at hi)
 exact ⟨b, off, ha, hb, (World.cell?_of_block (a := ⟨b, off + i, none⟩) (hg.block b hlt (Ne.symm hn))).trans hc, (World.frozen?_of_block (a := ⟨b, off + i, none⟩) (hg.block b hlt (Ne.symm hn))).trans hf⟩
/-- where such a slice lies -/
theorem Ints.blk {w : World} {lo : Nat} {a : Option Addr} {n c : Nat} {xs : List Int} (h : Ints w lo (.slice a n c) xs) (hn : xs ≠ []) : ∃ b off, a = some ⟨b, off, none⟩ ∧ lo ≤ b ∧ b < w.heap.size := by
 obtain ⟨a', cap, hv, h1, h2, h3, h4⟩ := h
 cases hv
 obtain ⟨b, off, ha, hb, hc, hf⟩ := h4 0 (by cases xs <;> simp_all)
 exact ⟨b, off, ha, hb, World.block_lt_of_cell? _ _ hc⟩

/-- only blocks from lo on, below hi, have turned -/
structure Chg (lo hi : Nat) (w w' : World) : Prop where
 os : w'.os = w.os
 tape : w'.tape = w.tape
 output : w'.output = w.output
 size : w.heap.size ≤ w'.heap.size
 block : ∀ k, k < w.heap.size → (k < lo ∨ hi ≤ k) → w'.heap[k]? = w.heap[k]?
theorem Chg.refl (lo hi : Nat) (w : World) : Chg lo hi w w := ⟨rfl, rfl, rfl, Nat.le_refl _, fun _ _ _ => rfl⟩
theorem Chg.trans {lo hi : Nat} {a b c : World} (h : Chg lo hi a b) (k : Chg lo hi b c) : Chg lo hi a c :=
 ⟨k.os.trans h.os, k.tape.trans h.tape, k.output.trans h.output, Nat.le_trans h.size k.size, fun i hi hd => (k.block i (Nat.lt_of_lt_of_le hi h.size) hd).trans (h.block i hi hd)⟩
theorem Chg.setCell {lo hi : Nat} {a w : World} (h : Chg lo hi a w) {p : Addr} (h1 : lo ≤ p.block) (h2 : p.block < hi) (u : Value) : Chg lo hi a (w.setCell p u) :=
 h.trans ⟨rfl, rfl, rfl, by simp, fun k hk hd => Below.heap_setCell _ _ _ _ (by omega)⟩
theorem Chg.ext {lo hi : Nat} {a w w' : World} (h : Chg lo hi a w) (k : Ext w w') : Chg lo hi a w' :=
 h.trans ⟨k.os, k.tape, k.output, k.size, fun i hi _ => k.block i hi⟩
theorem Chg.of_ext {lo hi : Nat} {a w : World} (k : Ext a w) : Chg lo hi a w := (Chg.refl _ _ _).ext k
theorem Chg.mono {lo hi lo' hi' : Nat} {a w : World} (h : Chg lo hi a w) (h1 : lo' ≤ lo) (h2 : hi ≤ hi') : Chg lo' hi' a w := ⟨h.os, h.tape, h.output, h.size, fun k hk hd => h.block k hk (by omega)⟩
theorem Ext.chg {lo hi : Nat} {a w w' : World} (h : Ext a w) (k : Chg lo hi w w') (hl : a.heap.size ≤ lo) : Ext a w' :=
 ⟨k.os.trans h.os, k.tape.trans h.tape, k.output.trans h.output, Nat.le_trans h.size k.size, fun i hi => (k.block i (Nat.lt_of_lt_of_le hi h.size) (.inl (by omega))).trans (h.block i hi)⟩
theorem OwnI.chg {lo hi : Nat} {w w' : World} {base : Nat} {v : Value} {xs : List Int} (h : OwnI w base v xs) (k : Chg lo hi w w') (hb : hi ≤ base) : OwnI w' base v xs := by
 refine ⟨h.1, ?_⟩
 rcases h.2 with h2 | ⟨g, cap, cur, hv, hg, hh, r⟩
 ·
  exact .inl h2
 ·
  exact .inr ⟨g, cap, cur, hv, hg, (k.block g (Array.getElem?_eq_some_iff.1 hh).1 (.inr (by omega))).trans hh, r⟩
theorem OwnZ.chg {lo hi : Nat} {w w' : World} {base : Nat} {v : Value} {xs : List Int} (h : OwnZ w base v xs) (k : Chg lo hi w w') (hb : hi ≤ base) : OwnZ w' base v xs := h.imp id fun h => h.chg k hb
theorem Ints.chg {lo hi : Nat} {w w' : World} {l : Nat} {v : Value} {xs : List Int} (h : Ints w l v xs) (k : Chg lo hi w w') (hb : hi ≤ l) : Ints w' l v xs := by
 obtain ⟨a, cap, hv, h1, h2, h3, h4⟩ := h
 refine ⟨a, cap, hv, h1, h2, h3, fun i hi' => ?_⟩
 obtain ⟨b, off, ha, hl, hc, hf⟩ := h4 i hi'
 have hlt := World.block_lt_of_cell? _ _ hc
 exact ⟨b, off, ha, hl, (World.cell?_of_block (a := ⟨b, off + i, none⟩) (k.block b hlt (.inr (by omega)))).trans hc, (World.frozen?_of_block (a := ⟨b, off + i, none⟩) (k.block b hlt (.inr (by omega)))).trans hf⟩
theorem Chg.cell {lo hi : Nat} {w w' : World} (k : Chg lo hi w w') {b o : Nat} {v : Value} (hd : b < lo ∨ hi ≤ b) (hc : w.cell? ⟨b, o, none⟩ = some v) : w'.cell? ⟨b, o, none⟩ = some v :=
 (World.cell?_of_block (a := ⟨b, o, none⟩) (k.block b (World.block_lt_of_cell? _ _ hc) hd)).trans hc

theorem qCh {p : Prop} (h : p := by repeat (first | (with_reducible exact Chg.refl _ _ _) | (with_reducible refine Chg.setCell ?_ (by first | exact Nat.le_refl _ | (simp; done) | (simp; omega) | omega) (by first | exact Nat.lt_succ_self _ | (simp; done) | (simp; omega) | omega) _) | (with_reducible refine Chg.ext ?_ (Ext.alloc (Ext.refl _) _)) | (with_reducible refine Chg.ext ?_ (Ext.drew (Ext.refl _))))) : p := h

end Go.Proofs.Ytpgkhjmboiepcaa

/- Walks of the program's counting functions. -/
namespace Go.Proofs.Ytpgkhjmboiepcaa
open Go.RowKit
set_option linter.unusedVariables false
set_option maxRecDepth 100000

def countL (xs : List Int) : Int := xs.foldl (fun n x => wrap64 (n * x)) 1
theorem countL_take (xs : List Int) (k : Nat) (hk : k < xs.length) :
    countL (xs.take (k+1)) = wrap64 (countL (xs.take k) * xs.getD k 0) := by
  unfold countL; rw [List.take_succ_eq_append_getElem hk, List.foldl_append]; simp [hk]

def dotL (base : Int) (ix st : List Int) : Int := (ix.zip st).foldl (fun a p => wrap64 (a + wrap64 (p.1 * p.2))) base
theorem dotL_take (base : Int) (ix st : List Int) (k : Nat) (hk : k < ix.length) (hs : k < st.length) :
    dotL base (ix.take (k+1)) st = wrap64 (dotL base (ix.take k) st + wrap64 (ix.getD k 0 * st.getD k 0)) := by
  unfold dotL
  have e : ∀ n : Nat, (ix.take n).zip st = (ix.zip st).take n := by
    intro n
    apply List.ext_getElem
    · simp <;> omega
    · intro i h1 h2; simp
  rw [e, e, List.take_succ_eq_append_getElem (by simp; omega), List.foldl_append]
  simp [hk, hs]

set_option maxHeartbeats 400000 in
theorem countOf_c (xs : List Int) (v : Value) (w : World) (lo : Nat) (hv : Ints w lo v xs) :
    Calls Try.prog 47 #[v] w fun e w' => e = .returned (.int .i64 (countL xs)) ∧ w = w' := by
  obtain ⟨a, cap, rfl, hlc, hcm, ⟨hlen, _⟩, hc⟩ := hv
  go_enter Try.func47, Try.ntmps47
  go_wp2
  go_loop [3, 8] (fun n i => ∃ k : Nat, k ≤ xs.length ∧ i = .int .i64 k ∧ n = .int .i64 (countL (xs.take k))) (fun _ i => xs.length - (intOf i).toNat)
  case atStart => exact ⟨0, Nat.zero_le _, rfl, rfl⟩
  case round =>
    obtain ⟨k, hk, rfl, rfl⟩ := hrel
    by_cases hlt : k < xs.length
    · obtain ⟨b, off, rfl, _, hcell, _⟩ := hc k hlt
      have hs := Lib.hid (countL_take xs k hlt)
      clear hc
      go_wp2
      go_round
      case rel => exact ⟨k+1, by omega, by go_num, by rw [hs.out]; simp [hlt]⟩
      case measure => simp [intOf]; omega
    · obtain rfl : k = xs.length := by omega
      go_wp2
      go_ret
      exact ⟨by simp, rfl⟩

set_option maxHeartbeats 400000 in
theorem offsetAt_c (base : Int) (shv st ix : Value) (sts ixs : List Int) (w : World) (lo lo' : Nat) (hst : Ints w lo st sts) (hix : Ints w lo' ix ixs) (hl : ixs.length ≤ sts.length) :
    Calls Try.prog 109 #[.agg #[.int .i64 base, shv, st], ix] w fun e w' => e = .returned (.int .i64 (dotL base ixs sts)) ∧ Ext w w' := by
  obtain ⟨a, cap, rfl, hlc, hcm, ⟨hlen, _⟩, hc⟩ := hst
  obtain ⟨a2, cap2, rfl, hlc2, hcm2, ⟨hlen2, _⟩, hc2⟩ := hix
  go_enter Try.func109, Try.ntmps109
  go_wp2
  go_loop [5, 12] (fun n i => ∃ k : Nat, k ≤ ixs.length ∧ i = .int .i64 k ∧ n = .int .i64 (dotL base (ixs.take k) sts)) (fun _ i => ixs.length - (intOf i).toNat)
  case atStart => exact ⟨0, Nat.zero_le _, rfl, rfl⟩
  case round =>
    obtain ⟨k, hk, rfl, rfl⟩ := hrel
    by_cases hlt : k < ixs.length
    · obtain ⟨b, off, rfl, _, hcell, _⟩ := hc k (by omega)
      obtain ⟨b2, off2, rfl, _, hcell2, _⟩ := hc2 k hlt
      have hbl := qB hcell
      have hbl2 := qB hcell2
      have hs := Lib.hid (dotL_take base ixs sts k hlt (by omega))
      have hk2 : k < sts.length := by omega
      clear hc hc2
      go_wp2
      go_round
      case rel => exact ⟨k+1, by omega, by go_num, by rw [hs.out]; simp [hlt, hk2]⟩
      case measure => simp [intOf]; omega
    · obtain rfl : k = ixs.length := by omega
      go_wp2
      go_ret
      exact ⟨by simp, (Ext.refl _).alloc _⟩

theorem set_rep (m : Nat) (x : Int) (l : List Int) : (List.replicate (m+1) 0 ++ l).set m x = List.replicate m 0 ++ x :: l := by
  rw [List.set_append_left _ _ (by simp), List.replicate_succ']
  rw [List.set_append_right _ _ (by simp)]; simp
def unStep (e : Int) (p : List Int × Int) : List Int × Int := (p.2 % e :: p.1, p.2 / e)
def unrL (shape : List Int) (k : Int) : List Int × Int := shape.foldr unStep ([], k)
theorem unrL_drop (shape : List Int) (k : Int) (j : Nat) (hj : j < shape.length) : unrL (shape.drop j) k = unStep (shape.getD j 0) (unrL (shape.drop (j+1)) k) := by
  unfold unrL; rw [List.drop_eq_getElem_cons hj, List.foldr_cons]; simp [hj]
theorem unrL_len (shape : List Int) (k : Int) : (unrL shape k).1.length = shape.length := by
  induction shape with
  | nil => rfl
  | cons e s ih => simp [unrL, unStep] at ih ⊢; exact ih
theorem unrL_pos (shape : List Int) (k : Int) (hk : 0 ≤ k) (hp : ∀ e ∈ shape, 1 ≤ e) : 0 ≤ (unrL shape k).2 := by
  induction shape with
  | nil => simpa [unrL]
  | cons e s ih =>
    have := ih (fun e he => hp e (List.mem_cons_of_mem _ he))
    simp only [unrL, List.foldr_cons, unStep] at this ⊢
    exact Int.ediv_nonneg this (by have := hp e (List.mem_cons_self ..); omega)

theorem unrL_le (shape : List Int) (k : Int) (hk : 0 ≤ k) (hp : ∀ e ∈ shape, 1 ≤ e) : (unrL shape k).2 ≤ k := by
  induction shape with
  | nil => simp [unrL]
  | cons e s ih =>
    have := ih (fun e he => hp e (List.mem_cons_of_mem _ he))
    have h0 := unrL_pos s k hk (fun e he => hp e (List.mem_cons_of_mem _ he))
    simp only [unrL, List.foldr_cons, unStep] at this h0 ⊢
    exact Int.le_trans (Int.ediv_le_self _ h0) this

set_option maxHeartbeats 400000 in
theorem indexAt_c (xs : List Int) (v : Value) (k : Int) (w : World) (lo : Nat) (hv : Ints w lo v xs) (hk : 0 ≤ k) (hk2 : k ≤ 1000000) (hp : ∀ e ∈ xs, 1 ≤ e) :
    Calls Try.prog 48 #[v, .int .i64 k] w (PInts w (unrL xs k).1) := by
  obtain ⟨a, cap, rfl, hlc, hcm, ⟨hlen, _⟩, hc⟩ := hv
  obtain ⟨i0, hi, hz0, hz1, hz2⟩ := info_parts infoInt
  go_enter Try.func48, Try.ntmps48
  go_wp2_with (at_make; refine wpList_make_full _ rfl _ _ 23 rfl w.heap.size 3 i0 (.int .i64 0) 1 Try.underlying23 hi hz0 hz1 .i64 .i64 _ _ xs.length rfl rfl rfl rfl (by rw [hz2]; omega) (by unfold maxLen; omega) (Nat.le_refl _) ?_)
  intro w1 hown hgr
  have hx : Ext w w1 := (Ext.refl w).grown hgr (by simp)
  rw [made_ints] at hown
  clear hgr
  go_wp2
  go_loopw [1, 6] (fun kk i wr => ∃ j : Nat, j ≤ xs.length ∧ i = .int .i64 ((j : Int) - 1) ∧ kk = .int .i64 (unrL (xs.drop j) k).2 ∧
      wr.ownsRow w.heap.size 3 1 (.slice (some ⟨w.heap.size, 0, none⟩) xs.length xs.length) xs.length ((List.replicate j 0 ++ (unrL (xs.drop j) k).1).map (Value.int .i64)) ∧ Ext w wr)
    (fun _ i _ => (intOf i + 1).toNat)
  case atStart => exact ⟨xs.length, Nat.le_refl _, by go_num, by simp [unrL], by simpa [unrL] using hown, hx⟩
  case round =>
    obtain ⟨j, hj, rfl, rfl, ho, hxr⟩ := hrel
    cases j with
    | zero =>
      go_wp2
      go_ret
      refine PInts.mk (base := w.heap.size) ?_ (Nat.le_refl _) (by rw [unrL_len]; omega) hxr
      unfold OwnI; rw [unrL_len]; simpa using ho
    | succ m =>
      rw [show ((m + 1 : Nat) : Int) - 1 = (m : Int) by omega]
      obtain ⟨b, off, rfl, _, hcell, _⟩ := hc m (by omega)
      have hcell' := hxr.cell hcell
      have hbl := qB hcell
      obtain ⟨hoc, hof⟩ := own_cell ho m (by omega)
      have h1 : 1 ≤ xs[m]?.getD 0 := by
        rw [List.getElem?_eq_getElem (by omega)]; exact hp _ (List.getElem_mem ..)
      have h0 : 0 ≤ (unrL (xs.drop (m+1)) k).2 := unrL_pos _ _ hk (fun e he => hp e (List.mem_of_mem_drop he))
      have h0' : (unrL (xs.drop (m+1)) k).2 ≤ 1000000 := by
        have := unrL_le (xs.drop (m+1)) k hk (fun e he => hp e (List.mem_of_mem_drop he)); omega
      have hs := Lib.hid (unrL_drop xs k m (by omega))
      have hn := Lib.hid (own_set ho m ((unrL (xs.drop (m+1)) k).2 % xs.getD m 0) (by omega))
      clear hc ho
      go_wp2
      go_roundw
      case rel =>
        refine ⟨m, by omega, rfl, by rw [hs.out]; simp [unStep], ?_, hxr.setCell (Nat.le_refl _) _⟩
        have := hn.out
        rw [hs.out]
        rw [set_rep] at this
        simpa [unStep] using this
      case measure => simp [intOf]

theorem all_take {α : Type} (p : α → Bool) (xs : List α) (k : Nat) (hk : k < xs.length) (h : (xs.take k).all p = true) (hx : p xs[k] = true) : (xs.take (k+1)).all p = true := by
  rw [List.take_succ_eq_append_getElem hk, List.all_append, h]; simp [hx]
theorem all_no {α : Type} (p : α → Bool) (xs : List α) (k : Nat) (hk : k < xs.length) (hx : p xs[k] = false) : xs.all p = false := by
  rw [Bool.eq_false_iff]; intro h
  rw [List.all_eq_true] at h
  have := h _ (List.getElem_mem hk); simp [hx] at this

def inB (lo hi : Int) (e : Int) : Bool := decide (lo ≤ e ∧ e ≤ hi)
def shapeB (xs : List Int) : Bool := decide (xs.length ≤ 4) && xs.all (inB 0 60) && decide (countL xs ≤ 60)

set_option maxHeartbeats 400000 in
theorem isShape_c (xs : List Int) (v : Value) (w : World) (lo : Nat) (hv : Ints w lo v xs) :
    Calls Try.prog 62 #[v] w fun e w' => e = .returned (.bool (shapeB xs)) ∧ w = w' := by
  have hv0 := Lib.hid hv
  obtain ⟨a, cap, rfl, hlc, hcm, ⟨hlen, _⟩, hc⟩ := hv
  by_cases h4 : xs.length ≤ 4
  · go_enter Try.func62, Try.ntmps62
    go_wp2_with fail
    go_loop [10] (fun i => ∃ k : Nat, k ≤ xs.length ∧ i = .int .i64 k ∧ (xs.take k).all (inB 0 60) = true) (fun i => xs.length - (intOf i).toNat)
    case atStart => exact ⟨0, Nat.zero_le _, rfl, rfl⟩
    case round =>
      obtain ⟨k, hk, rfl, hall0⟩ := hrel
      have hall := Lib.hid hall0
      clear hall0
      by_cases hlt : k < xs.length
      · obtain ⟨b, off, rfl, _, hcell, _⟩ := hc k hlt
        clear hc
        go_wp2_with fail
        all_goals first
          | (go_ret; exact ⟨by simp [shapeB, all_no (inB 0 60) xs k hlt (by unfold inB; simp; omega)], rfl⟩)
          | (go_round; (case rel => exact ⟨k+1, by omega, by go_num, all_take _ xs k hlt hall.out (by unfold inB; simp; omega)⟩); (case measure => simp [intOf]; omega))
      · obtain rfl : k = xs.length := by omega
        go_wp2_with (go_at_call 47; refine (countOf_c xs _ _ lo hv0.out).mono ?_; rintro e w' ⟨rfl, rfl⟩)
        go_ret
        exact ⟨by have := hall.out; simp only [List.take_length] at this; simp [shapeB, h4, this], rfl⟩
  · go_enter Try.func62, Try.ntmps62
    go_wp2_with fail
    go_ret
    exact ⟨by simp [shapeB, h4], rfl⟩

end Go.Proofs.Ytpgkhjmboiepcaa

/- Walks of the program's views. -/
namespace Go.Proofs.Ytpgkhjmboiepcaa
open Go.RowKit
set_option linter.unusedVariables false
set_option maxRecDepth 100000

/-- a closure that only computes: what it answers -/
def Asks (F : Nat) (cs : Array Value) (w : World) (p : Int → Bool) : Prop :=
  (∃ fn, Try.prog.funcs[F]? = some fn ∧ fn.body.isSome = true ∧ fn.name ≠ "runtime.NumGoroutine") ∧
  ∀ x, Calls Try.prog F (#[.int .i64 x] ++ cs) w fun e w' => e = .returned (.bool (p x)) ∧ w = w'

theorem run_callFunc (F : Nat) (args : Array Value) (w : World) (h : ∃ fn, Try.prog.funcs[F]? = some fn ∧ fn.body.isSome = true ∧ fn.name ≠ "runtime.NumGoroutine") :
    (callFunc F args).run Try.prog w = .ok (.enter F args) w := by
  obtain ⟨fn, hf, hb, hn⟩ := h
  unfold callFunc
  have : fn.body.isNone = false := by cases h : fn.body <;> simp_all
  simp [hf, hn]
  intro h; simp [h] at hb

theorem any_take {α : Type} (p : α → Bool) (xs : List α) (k : Nat) (hk : k < xs.length) (h : (xs.take k).any p = false) (hx : p xs[k] = false) : (xs.take (k+1)).any p = false := by
  rw [List.take_succ_eq_append_getElem hk, List.any_append, h]; simp [hx]
theorem any_yes {α : Type} (p : α → Bool) (xs : List α) (k : Nat) (hk : k < xs.length) (hx : p xs[k] = true) : xs.any p = true := List.any_eq_true.2 ⟨_, List.getElem_mem hk, hx⟩

def findI (p : Int → Bool) (xs : List Int) : Int := if xs.any p then (xs.findIdx p : Int) else -1
theorem findI_yes (p : Int → Bool) (xs : List Int) (k : Nat) (hk : k < xs.length) (h : (xs.take k).any p = false) (hx : p xs[k] = true) : findI p xs = k := by
  unfold findI; rw [if_pos (any_yes p xs k hk hx)]
  congr 1
  have h1 : xs.findIdx p ≤ k := by
    rw [← Nat.lt_succ_iff]
    exact (List.findIdx_lt_length_of_exists ⟨_, List.getElem_mem hk, hx⟩ |> fun _ => Nat.lt_succ_of_le (by
      rcases Nat.lt_or_ge k (xs.findIdx p) with h' | h'
      · have := List.not_of_lt_findIdx h'; simp [hx] at this
      · exact h'))
  rcases Nat.lt_or_ge (xs.findIdx p) k with h' | h'
  · have hl : xs.findIdx p < xs.length := by omega
    have := List.findIdx_getElem (w := hl)
    rw [Bool.eq_false_iff] at h
    exact absurd (List.any_eq_true.2 ⟨xs[xs.findIdx p], List.mem_take_iff_getElem.2 ⟨_, by omega, rfl⟩, this⟩) h
  · omega
theorem findI_no (p : Int → Bool) (xs : List Int) (h : xs.any p = false) : findI p xs = -1 := by simp [findI, h]

set_option maxHeartbeats 400000 in
theorem indexFunc_c (F : Nat) (cs : Array Value) (p : Int → Bool) (xs : List Int) (v : Value) (w : World) (lo : Nat) (hv : Ints w lo v xs) (hF : Asks F cs w p) :
    Calls Try.prog 114 #[v, .func (.func F) #[] cs] w fun e w' => e = .returned (.int .i64 (findI p xs)) ∧ w = w' := by
  obtain ⟨hf, hF⟩ := hF
  have hr := fun args w => run_callFunc F args w hf
  obtain ⟨a, cap, rfl, hlc, hcm, ⟨hlen, _⟩, hc⟩ := hv
  go_enter Try.func114, Try.ntmps114
  go_wp2_with fail
  go_loop [8] (fun i => ∃ k : Nat, k ≤ xs.length ∧ i = .int .i64 k ∧ (xs.take k).any p = false) (fun i => xs.length - (intOf i).toNat)
  case atStart => exact ⟨0, Nat.zero_le _, rfl, rfl⟩
  case round =>
    obtain ⟨k, hk, rfl, hall0⟩ := hrel
    have hall := Lib.hid hall0
    clear hall0
    by_cases hlt : k < xs.length
    · obtain ⟨b, off, rfl, _, hcell, _⟩ := hc k hlt
      clear hc
      cases hp : p xs[k]
      · go_wp2_with fail
        refine (hF _).mono ?_
        rintro e w' ⟨rfl, rfl⟩
        go_wp2_with fail
        go_round
        case rel => exact ⟨k+1, by omega, by go_num, any_take p xs k hlt hall.out hp⟩
        case measure => simp [intOf]; omega
      · have hs := Lib.hid (findI_yes p xs k hlt hall.out hp)
        go_wp2_with fail
        refine (hF _).mono ?_
        rintro e w' ⟨rfl, rfl⟩
        go_wp2_with fail
        go_ret
        exact ⟨by rw [hs.out]; rfl, rfl⟩
    · obtain rfl : k = xs.length := by omega
      go_wp2_with fail
      go_ret
      exact ⟨by rw [findI_no p xs (by simpa using hall.out)]; rfl, rfl⟩

theorem findI_ge (p : Int → Bool) (xs : List Int) : decide (0 ≤ findI p xs) = xs.any p := by
  unfold findI; cases h : xs.any p <;> simp

set_option maxHeartbeats 400000 in
theorem containsFunc_c (F : Nat) (cs : Array Value) (p : Int → Bool) (xs : List Int) (v : Value) (w : World) (lo : Nat) (hv : Ints w lo v xs) (hF : Asks F cs w p) :
    Calls Try.prog 87 #[v, .func (.func F) #[] cs] w fun e w' => e = .returned (.bool (xs.any p)) ∧ w = w' := by
  have hg := Lib.hid (findI_ge p xs)
  go_enter Try.func87, Try.ntmps87
  go_wp2_with (go_at_call 114; refine (indexFunc_c F cs p xs _ _ lo hv hF).mono ?_; rintro e w' ⟨rfl, rfl⟩)
  go_ret
  exact ⟨by rw [← hg.out]; rfl, rfl⟩

/-- the closure of isView: a cell that is none of a memory -/
def outB (x : Int) : Bool := decide (x < 0) || decide (60 ≤ x)
theorem isViewF_c (w : World) : Asks 88 #[] w outB := by
  refine ⟨⟨Try.f88, Try.func88, rfl, by decide +kernel⟩, fun x => ?_⟩
  rw [show (#[Value.int .i64 x] ++ #[]) = #[.int .i64 x] by simp]
  by_cases h : x < 0
  · go_enter Try.func88, Try.ntmps88
    go_wp2_with fail
    go_ret
    exact ⟨by simp [outB, h], rfl⟩
  · have h' : ¬ (x < 0) := h
    go_enter Try.func88, Try.ntmps88
    go_wp2_with fail
    go_ret
    exact ⟨by simp [outB]; omega, rfl⟩

def offsL (base : Int) (shape strides : List Int) : List Int :=
  (List.range (countL shape).toNat).map fun (k : Nat) => dotL base (unrL shape k).1 strides

set_option maxHeartbeats 400000 in
theorem offsetsOf_c (base : Int) (sh st : Value) (shape strides : List Int) (w : World) (lo lo' : Nat) (hsh : Ints w lo sh shape) (hst : Ints w lo' st strides)
    (hl : shape.length ≤ strides.length) (hp : 0 < countL shape → ∀ e ∈ shape, 1 ≤ e) (hcnt : countL shape ≤ 1000000) :
    Calls Try.prog 82 #[.agg #[.int .i64 base, sh, st]] w (PInts w (offsL base shape strides)) := by
  obtain ⟨i0, hi, hz0, hz1, hz2⟩ := info_parts infoInt
  go_enter Try.func82, Try.ntmps82
  go_wp2_with (go_at_call 47; refine (countOf_c shape _ _ lo (hsh.ext ((Ext.refl _).alloc _ |>.alloc _))).mono ?_; rintro e w' ⟨rfl, rfl⟩)
  go_loopw [3, 9] (fun v i wr => ∃ k : Nat, k ≤ (offsL base shape strides).length ∧ i = .int .i64 k ∧ OwnI wr (w.heap.size + 1) v ((offsL base shape strides).take k) ∧
      wr.cell? ⟨w.heap.size, 0, none⟩ = some (.int .i64 base) ∧ wr.cell? ⟨w.heap.size, 1, none⟩ = some sh ∧ wr.cell? ⟨w.heap.size, 2, none⟩ = some st ∧ Ext w wr ∧ w.heap.size < wr.heap.size)
    (fun _ i _ => (offsL base shape strides).length - (intOf i).toNat)
  case atStart =>
    refine ⟨0, Nat.zero_le _, rfl, ?_, by simp, by simp, by simp, (Ext.refl _).alloc _ |>.alloc _, by simp; omega⟩
    simpa using OwnI.lit0 (w.alloc (.cells #[.int .i64 base, sh, st] 25)) (w.heap.size + 1) (by simp)
  case round =>
    obtain ⟨k, hk, rfl, ho, c0, c1, c2, hx, hz⟩ := hrel
    have hlen : (offsL base shape strides).length = (countL shape).toNat := by simp [offsL]
    by_cases hlt : k < (offsL base shape strides).length
    · have hkc : (k : Int) < countL shape := by omega
      go_wp2_with fail
      have hz2 : w.heap.size + 1 ≤ wr.heap.size := hz
      go_region_law (first
        | (go_simp; go_at_call 48; refine (indexAt_c shape _ (k : Int) _ lo (hsh.ext (by exact hx.drew)) (by omega) (by omega) (hp (by omega))).mono ?_; rintro e w1 ⟨v1, rfl, hi1, _, hx1⟩; have hr1 : ∀ b o, b < wr.heap.size → w1.cell? ⟨b, o, none⟩ = wr.cell? ⟨b, o, none⟩ := hx1.rule)
        | (go_simp; go_at_call 109; refine (offsetAt_c base _ _ _ strides _ _ lo' _ (hst.ext (by exact hx.trans (Ext.trans ((Ext.refl _).drew) hx1))) hi1 (by rw [unrL_len]; exact hl)).mono ?_; rintro e w2 ⟨rfl, hx2'⟩; have hs2 := hx2'.size; have hs1 := hx1.size; have hx2 : Ext wr w2 := (Ext.trans ((Ext.refl _).drew) hx1).trans hx2'; have hr2 : ∀ b o, b < wr.heap.size → w2.cell? ⟨b, o, none⟩ = wr.cell? ⟨b, o, none⟩ := hx2.rule)
        | (refine step_app rfl (.tmp 12) (.tmp 19) rfl rfl rfl ((ho.ext hx2).ext ((Ext.refl _).alloc _)) (Ints.one _ 0 _ (Nat.zero_le _)) (by simp; omega) (by simp at hs1; simp; omega) ?_; intro v' w3 ho3 hg3 hb3 _))
      all_goals
        have hxa := (hx.trans hx2).alloc (.cells #[.int .i64 (dotL base (unrL shape k).1 strides)] 3)
        have d0 := below_cell hb3 (b := w.heap.size) (by omega) (((Ext.alloc hx2 _).cell c0))
        have d1 := below_cell hb3 (b := w.heap.size) (by omega) (((Ext.alloc hx2 _).cell c1))
        have d2 := below_cell hb3 (b := w.heap.size) (by omega) (((Ext.alloc hx2 _).cell c2))
        have hz3 := hb3.size
        simp at hz3 hs1
        have ho4 : OwnI w3 (w.heap.size + 1) v' ((offsL base shape strides).take (k+1)) := by
          rw [List.take_succ_eq_append_getElem hlt]
          simpa [offsL] using ho3
        have hx3 := hxa.below hb3 (by omega)
        clear ho3 hg3 hb3 hxa hr1 hr2 hx2 hx2' hx1 ho
        go_wp2_with fail
        go_roundw
        case rel => exact ⟨k+1, by omega, by go_num, ho4, d0, d1, d2, hx3, by omega⟩
        case measure => simp [intOf]; omega
    · have hkk : k = (offsL base shape strides).length := by omega
      have hge : ¬ (k : Int) < countL shape := by omega
      rw [hkk, List.take_length] at ho
      have hI := Lib.hid ho
      clear ho hkk
      go_wp2_with fail
      go_ret
      exact PInts.mk hI.out (Nat.le_succ _) (by omega) hx
end Go.Proofs.Ytpgkhjmboiepcaa

/- The walk of the program's isView. -/
namespace Go.Proofs.Ytpgkhjmboiepcaa
open Go.RowKit
set_option linter.unusedVariables false
set_option maxRecDepth 100000

theorem countL_zero_or {xs : List Int} (hl : xs.length ≤ 4) (hb : ∀ e ∈ xs, 0 ≤ e ∧ e ≤ 60) : 0 ≤ countL xs ∧ countL xs ≤ 12960000 ∧ (0 < countL xs → ∀ e ∈ xs, 1 ≤ e) ∧ countL xs = xs.foldr (· * ·) 1 := by
  have key : ∀ (xs : List Int) (n B : Int), 0 ≤ n → n ≤ B → B * 60 ^ xs.length ≤ 12960000 → (∀ e ∈ xs, 0 ≤ e ∧ e ≤ 60) →
      xs.foldl (fun n x => wrap64 (n * x)) n = n * xs.foldr (· * ·) 1 ∧ 0 ≤ xs.foldr (· * ·) 1 ∧ n * xs.foldr (· * ·) 1 ≤ 12960000 ∧ (0 < xs.foldr (· * ·) 1 → ∀ e ∈ xs, 1 ≤ e) := by
    intro xs
    induction xs with
    | nil => intro n B h0 h1 h2 _; simp at h2 ⊢; omega
    | cons x xs ih =>
      intro n B h0 h1 h2 hb
      have hx := hb x (List.mem_cons_self ..)
      have hB : 0 ≤ B := by omega
      have hnx : n * x ≤ B * 60 := Int.mul_le_mul h1 hx.2 hx.1 hB
      have hnx0 : 0 ≤ n * x := Int.mul_nonneg h0 hx.1
      have hp : (1 : Int) ≤ 60 ^ xs.length := Int.pow_pos (by decide)
      have h2' : B * 60 * 60 ^ xs.length ≤ 12960000 := by
        rw [List.length_cons, Int.pow_succ] at h2
        rw [Int.mul_assoc, Int.mul_comm 60]; exact h2
      have hB60 : B * 60 ≤ 12960000 := Int.le_trans (by
        have := Int.mul_le_mul_of_nonneg_left hp (show 0 ≤ B * 60 by omega)
        simpa using this) h2'
      have hw : wrap64 (n * x) = n * x := IntWalk.wrap64_in _ ⟨by omega, by omega⟩
      obtain ⟨e1, e2, e3, e4⟩ := ih (n * x) (B * 60) hnx0 hnx h2' (fun e he => hb e (List.mem_cons_of_mem _ he))
      refine ⟨?_, ?_, ?_, ?_⟩
      · rw [List.foldl_cons, hw, e1, List.foldr_cons, Int.mul_assoc]
      · rw [List.foldr_cons]; exact Int.mul_nonneg hx.1 e2
      · rw [List.foldr_cons, ← Int.mul_assoc]; exact e3
      · rw [List.foldr_cons]; intro hpos e he
        have hx1 : 1 ≤ x := by
          rcases Int.lt_or_le 0 x with h | h
          · omega
          · have : x = 0 := by omega
            subst this; simp at hpos
        have : 0 < xs.foldr (· * ·) 1 := by
          rcases Int.lt_or_le 0 (xs.foldr (· * ·) 1) with h | h
          · exact h
          · have h0 : xs.foldr (· * ·) 1 = 0 := by omega
            rw [h0] at hpos; simp at hpos
        rcases List.mem_cons.1 he with rfl | he
        · exact hx1
        · exact e4 this e he
  have hpow : (1 : Int) * 60 ^ xs.length ≤ 12960000 := by
    have h4 : xs.length = 0 ∨ xs.length = 1 ∨ xs.length = 2 ∨ xs.length = 3 ∨ xs.length = 4 := by omega
    rcases h4 with h | h | h | h | h <;> rw [h] <;> decide
  obtain ⟨e1, e2, e3, e4⟩ := key xs 1 1 (by decide) (by decide) hpow hb
  have e : countL xs = xs.foldr (· * ·) 1 := by unfold countL; rw [e1]; simp
  rw [Int.one_mul] at e3
  exact ⟨by omega, by omega, fun h => e4 (by omega), e⟩
theorem shapeB_in {xs : List Int} (h : shapeB xs = true) : xs.length ≤ 4 ∧ (∀ e ∈ xs, 0 ≤ e ∧ e ≤ 60) ∧ 0 ≤ countL xs ∧ countL xs ≤ 60 ∧ (0 < countL xs → ∀ e ∈ xs, 1 ≤ e) := by
  simp only [shapeB, inB, Bool.and_eq_true, decide_eq_true_eq, List.all_eq_true] at h
  have := countL_zero_or h.1.1 h.1.2
  exact ⟨h.1.1, h.1.2, this.1, h.2, this.2.2.1⟩

def viewB (base : Int) (shape strides : List Int) : Bool :=
  shapeB shape && decide (strides.length = shape.length) && inB 0 60 base && strides.all (inB (-60) 60) && (offsL base shape strides).all (inB 0 59)

theorem any_out (l : List Int) : (!l.any outB) = l.all (inB 0 59) := by
  rw [List.not_any_eq_all_not]
  congr 1; funext x; unfold outB inB; rw [Bool.eq_iff_iff]; simp; omega
theorem viewB_end {base : Int} {shape strides : List Int} (h1 : (shapeB shape && decide (strides.length = shape.length) && inB 0 60 base) = true) (h2 : strides.all (inB (-60) 60) = true) :
    viewB base shape strides = !(offsL base shape strides).any outB := by
  unfold viewB; rw [h1, h2, any_out]; simp
set_option maxHeartbeats 800000 in
theorem isView_c (base : Int) (sh st : Value) (shape strides : List Int) (w : World) (lo lo' : Nat) (hsh : Ints w lo sh shape) (hst : Ints w lo' st strides) :
    Calls Try.prog 44 #[.agg #[.int .i64 base, sh, st]] w fun e w' => e = .returned (.bool (viewB base shape strides)) ∧ Ext w w' := by
  have hst0 := Lib.hid hst
  have hsh0 := Lib.hid hsh
  obtain ⟨a, cap, rfl, hlc, hcm, ⟨hlen, _⟩, hc⟩ := hst
  obtain ⟨a2, cap2, rfl, hlc2, hcm2, ⟨hlen2, _⟩, hc2⟩ := hsh
  by_cases hb : (shapeB shape && decide (strides.length = shape.length) && inB 0 60 base) = true
  case neg =>
    have hv := Lib.hid (show viewB base shape strides = false by unfold viewB; simp only [Bool.not_eq_true] at hb; simp only [hb, Bool.false_and])
    have hb := Lib.hid (show (shapeB shape && decide (strides.length = shape.length) && inB 0 60 base) = false by simpa using hb)
    go_enter Try.func44, Try.ntmps44
    go_wp2_with (go_at_call 62; refine (isShape_c shape _ _ lo (hsh0.out.ext ((Ext.refl _).alloc _))).mono ?_; rintro e w' ⟨rfl, rfl⟩)
    all_goals first
      | (go_ret; exact ⟨by rw [hv.out]; rfl, (Ext.refl _).alloc _⟩)
      | (exfalso; have := hb.out; simp [inB, *] at this; omega)
  have hbs := hb
  simp only [Bool.and_eq_true, decide_eq_true_eq, inB] at hbs
  obtain ⟨⟨h1, h2⟩, h3, h4⟩ := hbs
  have h1' := Lib.hid h1
  have hb := Lib.hid hb
  rw [h2] at hst0
  go_enter Try.func44, Try.ntmps44
  go_wp2_with (go_at_call 62; refine (isShape_c shape _ _ lo (hsh0.out.ext ((Ext.refl _).alloc _))).mono ?_; rintro e w' ⟨rfl, rfl⟩)
  clear h1
  go_loop [31] (fun i => ∃ k : Nat, k ≤ strides.length ∧ i = .int .i64 k ∧ (strides.take k).all (inB (-60) 60) = true) (fun i => strides.length - (intOf i).toNat)
  case atStart => exact ⟨0, Nat.zero_le _, rfl, rfl⟩
  case round =>
    obtain ⟨k, hk, rfl, hall0⟩ := hrel
    have hall := Lib.hid hall0
    clear hall0
    by_cases hlt : k < strides.length
    · obtain ⟨b, off, rfl, _, hcell, _⟩ := hc k hlt
      have hbl := qB hcell
      have hlt2 : k < shape.length := by omega
      clear hc hc2
      go_wp2_with fail
      all_goals first
        | (go_ret; exact ⟨by simp [viewB, all_no (inB (-60) 60) strides k hlt (by unfold inB; simp; omega)], (Ext.refl _).alloc _⟩)
        | (go_round; (case rel => exact ⟨k+1, by omega, by go_num, all_take _ strides k hlt hall.out (by unfold inB; simp; omega)⟩); (case measure => simp [intOf]; omega))
    · have hk' := Lib.hid (show k = strides.length by omega)
      have hin := shapeB_in h1'.out
      clear hc hc2
      go_wp2_with (first
        | (go_at_call 82; refine (offsetsOf_c base _ _ shape strides _ lo lo' (hsh0.out.ext ((Ext.refl _).alloc _)) (hst0.out.ext ((Ext.refl _).alloc _)) (by omega) hin.2.2.2.2 (by omega)).mono ?_; rintro e w1 ⟨v1, rfl, hi1, _, hx1⟩)
        | (go_at_call 87; refine (containsFunc_c _ _ outB _ _ _ _ hi1 (isViewF_c _)).mono ?_; rintro e w2 ⟨rfl, rfl⟩))
      go_ret
      exact ⟨by rw [viewB_end hb.out (by have := hall.out; rw [hk'.out] at this; simpa using this)]; rfl, (Ext.trans ((Ext.refl _).alloc _) hx1)⟩
theorem viewB_in {base : Int} {shape strides : List Int} (h : viewB base shape strides = true) :
    shapeB shape = true ∧ strides.length = shape.length ∧ (0 ≤ base ∧ base ≤ 60) ∧ (∀ s ∈ strides, -60 ≤ s ∧ s ≤ 60) ∧ (∀ x ∈ offsL base shape strides, 0 ≤ x ∧ x ≤ 59) := by
  simp only [viewB, inB, Bool.and_eq_true, decide_eq_true_eq, List.all_eq_true] at h
  exact ⟨h.1.1.1.1, h.1.1.1.2, h.1.1.2, h.1.2, h.2⟩

end Go.Proofs.Ytpgkhjmboiepcaa

/- Walks of the reference's shapes and views. -/
namespace Go.Proofs.Ytpgkhjmboiepcaa
open Go.RowKit
set_option linter.unusedVariables false
set_option maxRecDepth 100000

set_option maxHeartbeats 400000 in
theorem inRange_c (n lo hi : Int) (w : World) :
    Calls Try.prog 57 #[.int .i64 n, .int .i64 lo, .int .i64 hi] w fun e w' => e = .returned (.bool (inB lo hi n)) ∧ w = w' := by
  by_cases h : lo ≤ n
  · go_enter Try.func57, Try.ntmps57
    go_wp2_with fail
    go_ret
    exact ⟨by simp [inB, h], rfl⟩
  · have h' : n < lo := by omega
    go_enter Try.func57, Try.ntmps57
    go_wp2_with fail
    go_ret
    exact ⟨by simp [inB]; intro; omega, rfl⟩

set_option maxHeartbeats 400000 in
theorem allIn_c (xs : List Int) (v : Value) (l h : Int) (w : World) (lo : Nat) (hv : Ints w lo v xs) :
    Calls Try.prog 73 #[v, .int .i64 l, .int .i64 h] w fun e w' => e = .returned (.bool (xs.all (inB l h))) ∧ w = w' := by
  obtain ⟨a, cap, rfl, hlc, hcm, ⟨hlen, _⟩, hc⟩ := hv
  go_enter Try.func73, Try.ntmps73
  go_wp2_with fail
  go_loop [7] (fun i => ∃ k : Nat, k ≤ xs.length ∧ i = .int .i64 k ∧ (xs.take k).all (inB l h) = true) (fun i => xs.length - (intOf i).toNat)
  case atStart => exact ⟨0, Nat.zero_le _, rfl, rfl⟩
  case round =>
    obtain ⟨k, hk, rfl, hall0⟩ := hrel
    have hall := Lib.hid hall0
    clear hall0
    by_cases hlt : k < xs.length
    · obtain ⟨b, off, rfl, _, hcell, _⟩ := hc k hlt
      clear hc
      cases hin : inB l h xs[k]
      all_goals
        go_wp2_with (go_at_call 57; refine (inRange_c _ _ _ _).mono ?_; rintro e w' ⟨rfl, rfl⟩)
      · go_ret
        exact ⟨by rw [all_no _ xs k hlt hin]; rfl, rfl⟩
      · go_round
        case rel => exact ⟨k+1, by omega, by go_num, all_take _ xs k hlt hall.out hin⟩
        case measure => simp [intOf]; omega
    · obtain rfl : k = xs.length := by omega
      go_wp2_with fail
      go_ret
      exact ⟨by have := hall.out; rw [List.take_length] at this; rw [this]; rfl, rfl⟩

set_option maxHeartbeats 400000 in
theorem count_c (xs : List Int) (v : Value) (w : World) (lo : Nat) (hv : Ints w lo v xs) :
    Calls Try.prog 111 #[v] w fun e w' => e = .returned (.int .i64 (countL xs)) ∧ w = w' := by
  obtain ⟨a, cap, rfl, hlc, hcm, ⟨hlen, _⟩, hc⟩ := hv
  go_enter Try.func111, Try.ntmps111
  go_wp2
  go_loop [3, 4] (fun n i => ∃ k : Nat, k ≤ xs.length ∧ i = .int .i64 k ∧ n = .int .i64 (countL (xs.take k))) (fun _ i => xs.length - (intOf i).toNat)
  case atStart => exact ⟨0, Nat.zero_le _, rfl, rfl⟩
  case round =>
    obtain ⟨k, hk, rfl, rfl⟩ := hrel
    by_cases hlt : k < xs.length
    · obtain ⟨b, off, rfl, _, hcell, _⟩ := hc k hlt
      have hs := Lib.hid (countL_take xs k hlt)
      clear hc
      go_wp2
      go_round
      case rel => exact ⟨k+1, by omega, by go_num, by rw [hs.out]; simp [hlt]⟩
      case measure => simp [intOf]; omega
    · obtain rfl : k = xs.length := by omega
      go_wp2
      go_ret
      exact ⟨by simp, rfl⟩

set_option maxHeartbeats 400000 in
theorem unrank_c (xs : List Int) (v : Value) (k : Int) (w : World) (lo : Nat) (hv : Ints w lo v xs) (hk : 0 ≤ k) (hk2 : k ≤ 1000000) (hp : ∀ e ∈ xs, 1 ≤ e) :
    Calls Try.prog 113 #[v, .int .i64 k] w (PInts w (unrL xs k).1) := by
  obtain ⟨a, cap, rfl, hlc, hcm, ⟨hlen, _⟩, hc⟩ := hv
  obtain ⟨i0, hi, hz0, hz1, hz2⟩ := info_parts infoInt
  go_enter Try.func113, Try.ntmps113
  go_wp2_with (at_make; refine wpList_make_full _ rfl _ _ 23 rfl w.heap.size 3 i0 (.int .i64 0) 1 Try.underlying23 hi hz0 hz1 .i64 .i64 _ _ xs.length rfl rfl rfl rfl (by rw [hz2]; omega) (by unfold maxLen; omega) (Nat.le_refl _) ?_)
  intro w1 hown hgr
  have hx : Ext w w1 := (Ext.refl w).grown hgr (by simp)
  rw [made_ints] at hown
  clear hgr
  go_wp2
  go_loopw [1, 6] (fun kk i wr => ∃ j : Nat, j ≤ xs.length ∧ i = .int .i64 ((j : Int) - 1) ∧ kk = .int .i64 (unrL (xs.drop j) k).2 ∧
      wr.ownsRow w.heap.size 3 1 (.slice (some ⟨w.heap.size, 0, none⟩) xs.length xs.length) xs.length ((List.replicate j 0 ++ (unrL (xs.drop j) k).1).map (Value.int .i64)) ∧ Ext w wr)
    (fun _ i _ => (intOf i + 1).toNat)
  case atStart => exact ⟨xs.length, Nat.le_refl _, by go_num, by simp [unrL], by simpa [unrL] using hown, hx⟩
  case round =>
    obtain ⟨j, hj, rfl, rfl, ho, hxr⟩ := hrel
    cases j with
    | zero =>
      go_wp2
      go_ret
      refine PInts.mk (base := w.heap.size) ?_ (Nat.le_refl _) (by rw [unrL_len]; omega) hxr
      unfold OwnI; rw [unrL_len]; simpa using ho
    | succ m =>
      rw [show ((m + 1 : Nat) : Int) - 1 = (m : Int) by omega]
      obtain ⟨b, off, rfl, _, hcell, _⟩ := hc m (by omega)
      have hcell' := hxr.cell hcell
      have hbl := qB hcell
      obtain ⟨hoc, hof⟩ := own_cell ho m (by omega)
      have h1 : 1 ≤ xs[m]?.getD 0 := by
        rw [List.getElem?_eq_getElem (by omega)]; exact hp _ (List.getElem_mem ..)
      have h0 : 0 ≤ (unrL (xs.drop (m+1)) k).2 := unrL_pos _ _ hk (fun e he => hp e (List.mem_of_mem_drop he))
      have h0' : (unrL (xs.drop (m+1)) k).2 ≤ 1000000 := by
        have := unrL_le (xs.drop (m+1)) k hk (fun e he => hp e (List.mem_of_mem_drop he)); omega
      have hs := Lib.hid (unrL_drop xs k m (by omega))
      have hn := Lib.hid (own_set ho m ((unrL (xs.drop (m+1)) k).2 % xs.getD m 0) (by omega))
      clear hc ho
      go_wp2
      go_roundw
      case rel =>
        refine ⟨m, by omega, rfl, by rw [hs.out]; simp [unStep], ?_, hxr.setCell (Nat.le_refl _) _⟩
        have := hn.out
        rw [hs.out]
        rw [set_rep] at this
        simpa [unStep] using this
      case measure => simp [intOf]

set_option maxHeartbeats 400000 in
theorem offset_c (base : Int) (shv st ix : Value) (sts ixs : List Int) (w : World) (lo lo' : Nat) (hst : Ints w lo st sts) (hix : Ints w lo' ix ixs) (hl : ixs.length ≤ sts.length) :
    Calls Try.prog 112 #[.agg #[.int .i64 base, shv, st], ix] w fun e w' => e = .returned (.int .i64 (dotL base ixs sts)) ∧ Ext w w' := by
  obtain ⟨a, cap, rfl, hlc, hcm, ⟨hlen, _⟩, hc⟩ := hst
  obtain ⟨a2, cap2, rfl, hlc2, hcm2, ⟨hlen2, _⟩, hc2⟩ := hix
  go_enter Try.func112, Try.ntmps112
  go_wp2
  go_loopw [5, 6] (fun n i wr => ∃ k m : Nat, k ≤ ixs.length ∧ i = .int .i64 k ∧ n = .int .i64 (dotL base (ixs.take k) sts) ∧ wr = (w.alloc (.cells #[.int .i64 base, shv, .slice a sts.length cap] 25)).drewN m) (fun _ i _ => ixs.length - (intOf i).toNat)
  case atStart => exact ⟨0, 0, Nat.zero_le _, rfl, rfl, rfl⟩
  case round =>
    obtain ⟨k, m, hk, rfl, rfl, rfl⟩ := hrel
    by_cases hlt : k < ixs.length
    · obtain ⟨b, off, rfl, _, hcell, _⟩ := hc k (by omega)
      obtain ⟨b2, off2, rfl, _, hcell2, _⟩ := hc2 k hlt
      have hbl := qB hcell
      have hbl2 := qB hcell2
      have hs := Lib.hid (dotL_take base ixs sts k hlt (by omega))
      have hk2 : k < sts.length := by omega
      have hk3 : (k : Int) < sts.length := by omega
      have hk4 : (k : Int) < ixs.length := by omega
      clear hc hc2
      go_wp2_with fail
      go_quiet (fail)
      go_wp2_with fail
      go_roundw
      case rel => exact ⟨k+1, _, by omega, by go_num, by rw [hs.out]; simp [hlt, hk2], rfl⟩
      case measure => simp [intOf]; omega
    · obtain rfl : k = ixs.length := by omega
      go_wp2
      go_ret
      exact ⟨by simp, ((Ext.refl _).alloc _).drewN _⟩

set_option maxHeartbeats 400000 in
theorem offsets_c (base : Int) (sh st : Value) (shape strides : List Int) (w : World) (lo lo' : Nat) (hsh : Ints w lo sh shape) (hst : Ints w lo' st strides)
    (hl : shape.length ≤ strides.length) (hp : 0 < countL shape → ∀ e ∈ shape, 1 ≤ e) (hcnt : countL shape ≤ 1000000) :
    Calls Try.prog 86 #[.agg #[.int .i64 base, sh, st]] w (PInts w (offsL base shape strides)) := by
  obtain ⟨i0, hi, hz0, hz1, hz2⟩ := info_parts infoInt
  go_enter Try.func86, Try.ntmps86
  go_wp2_with fail
  go_loopw [3, 4] (fun v i wr => ∃ k : Nat, k ≤ (offsL base shape strides).length ∧ i = .int .i64 k ∧ OwnI wr (w.heap.size + 1) v ((offsL base shape strides).take k) ∧
      wr.cell? ⟨w.heap.size, 0, none⟩ = some (.int .i64 base) ∧ wr.cell? ⟨w.heap.size, 1, none⟩ = some sh ∧ wr.cell? ⟨w.heap.size, 2, none⟩ = some st ∧ Ext w wr ∧ w.heap.size < wr.heap.size)
    (fun _ i _ => (offsL base shape strides).length - (intOf i).toNat)
  case atStart =>
    refine ⟨0, Nat.zero_le _, rfl, ?_, by simp, by simp, by simp, (Ext.refl _).alloc _ |>.alloc _, by simp; omega⟩
    simpa using OwnI.lit0 (w.alloc (.cells #[.int .i64 base, sh, st] 25)) (w.heap.size + 1) (by simp)
  case round =>
    obtain ⟨k, hk, rfl, ho, c0, c1, c2, hx, hz⟩ := hrel
    have hlen : (offsL base shape strides).length = (countL shape).toNat := by simp [offsL]
    by_cases hlt : k < (offsL base shape strides).length
    · have hkc : (k : Int) < countL shape := by omega
      go_wp2_with (go_at_call 111; refine (count_c shape _ _ lo (hsh.ext hx)).mono ?_; rintro e w' ⟨rfl, rfl⟩)
      have hz2 : w.heap.size + 1 ≤ wr.heap.size := hz
      go_region_law (first
        | (go_simp; go_at_call 113; refine (unrank_c shape _ (k : Int) _ lo (hsh.ext (by exact hx.drew)) (by omega) (by omega) (hp (by omega))).mono ?_; rintro e w1 ⟨v1, rfl, hi1, _, hx1⟩; have hr1 : ∀ b o, b < wr.heap.size → w1.cell? ⟨b, o, none⟩ = wr.cell? ⟨b, o, none⟩ := hx1.rule)
        | (go_simp; go_at_call 112; refine (offset_c base _ _ _ strides _ _ lo' _ (hst.ext (by exact hx.trans (Ext.trans ((Ext.refl _).drew) hx1))) hi1 (by rw [unrL_len]; exact hl)).mono ?_; rintro e w2 ⟨rfl, hx2'⟩; have hs2 := hx2'.size; have hs1 := hx1.size; have hx2 : Ext wr w2 := (Ext.trans ((Ext.refl _).drew) hx1).trans hx2'; have hr2 : ∀ b o, b < wr.heap.size → w2.cell? ⟨b, o, none⟩ = wr.cell? ⟨b, o, none⟩ := hx2.rule)
        | (refine step_app rfl (.tmp 13) (.tmp 20) rfl rfl rfl ((ho.ext hx2).ext ((Ext.refl _).alloc _)) (Ints.one _ 0 _ (Nat.zero_le _)) (by simp; omega) (by simp at hs1; simp; omega) ?_; intro v' w3 ho3 hg3 hb3 _))
      all_goals
        have hxa := (hx.trans hx2).alloc (.cells #[.int .i64 (dotL base (unrL shape k).1 strides)] 3)
        have d0 := below_cell hb3 (b := w.heap.size) (by omega) (((Ext.alloc hx2 _).cell c0))
        have d1 := below_cell hb3 (b := w.heap.size) (by omega) (((Ext.alloc hx2 _).cell c1))
        have d2 := below_cell hb3 (b := w.heap.size) (by omega) (((Ext.alloc hx2 _).cell c2))
        have hz3 := hb3.size
        simp at hz3 hs1
        have ho4 : OwnI w3 (w.heap.size + 1) v' ((offsL base shape strides).take (k+1)) := by
          rw [List.take_succ_eq_append_getElem hlt]
          simpa [offsL] using ho3
        have hx3 := hxa.below hb3 (by omega)
        clear ho3 hg3 hb3 hxa hr1 hr2 hx2 hx2' hx1 ho
        go_wp2_with fail
        go_roundw
        case rel => exact ⟨k+1, by omega, by go_num, ho4, d0, d1, d2, hx3, by omega⟩
        case measure => simp [intOf]; omega
    · have hkk : k = (offsL base shape strides).length := by omega
      have hge : ¬ (k : Int) < countL shape := by omega
      rw [hkk, List.take_length] at ho
      have hI := Lib.hid ho
      clear ho hkk
      go_wp2_with (go_at_call 111; refine (count_c shape _ _ lo (hsh.ext hx)).mono ?_; rintro e w' ⟨rfl, rfl⟩)
      go_ret
      exact PInts.mk hI.out (Nat.le_succ _) (by omega) hx

set_option maxHeartbeats 400000 in
theorem validShape_c (xs : List Int) (v : Value) (w : World) (lo : Nat) (hv : Ints w lo v xs) :
    Calls Try.prog 110 #[v] w fun e w' => e = .returned (.bool (shapeB xs)) ∧ w = w' := by
  have hv0 := Lib.hid hv
  obtain ⟨a, cap, rfl, hlc, hcm, ⟨hlen, _⟩, hc⟩ := hv
  by_cases h4 : xs.length ≤ 4
  · have h4' : (xs.length : Int) ≤ 4 := by omega
    cases hall : xs.all (inB 0 60)
    all_goals
      go_enter Try.func110, Try.ntmps110
      go_wp2_with (first
        | (go_at_call 73; refine (allIn_c xs _ _ _ _ lo hv0.out).mono ?_; rintro e w' ⟨rfl, rfl⟩)
        | (go_at_call 111; refine (count_c xs _ _ lo hv0.out).mono ?_; rintro e w' ⟨rfl, rfl⟩))
      go_ret
      exact ⟨by simp [shapeB, h4, hall], rfl⟩
  · have h4' : ¬ (xs.length : Int) ≤ 4 := by omega
    go_enter Try.func110, Try.ntmps110
    go_wp2_with fail
    go_ret
    exact ⟨by simp [shapeB, h4], rfl⟩

end Go.Proofs.Ytpgkhjmboiepcaa

/- Walks of the reference's views: valid views. -/
namespace Go.Proofs.Ytpgkhjmboiepcaa
open Go.RowKit
set_option linter.unusedVariables false
set_option maxRecDepth 100000

theorem offsL_zero {base : Int} {shape strides : List Int} (h : countL shape = 0) : offsL base shape strides = [] := by simp [offsL, h]

set_option maxHeartbeats 1000000 in
theorem validView_c (base : Int) (sh st : Value) (shape strides : List Int) (w : World) (lo lo' : Nat) (hsh : Ints w lo sh shape) (hst : Ints w lo' st strides) :
    Calls Try.prog 84 #[.agg #[.int .i64 base, sh, st]] w fun e w' => e = .returned (.bool (viewB base shape strides)) ∧ Ext w w' := by
  have hst0 := Lib.hid hst
  have hsh0 := Lib.hid hsh
  obtain ⟨a, cap, rfl, hlc, hcm, ⟨hlen, _⟩, hc⟩ := hst
  obtain ⟨a2, cap2, rfl, hlc2, hcm2, ⟨hlen2, _⟩, hc2⟩ := hsh
  clear hc hc2
  cases h1 : shapeB shape
  case false =>
    have hv := Lib.hid (show viewB base shape strides = false by simp [viewB, h1])
    go_enter Try.func84, Try.ntmps84
    go_wp2_with (go_at_call 110; refine (validShape_c shape _ _ lo (hsh0.out.ext ((Ext.refl _).alloc _))).mono ?_; rintro e w' ⟨rfl, rfl⟩)
    go_ret
    exact ⟨by rw [hv.out]; rfl, (Ext.refl _).alloc _⟩
  have hin := shapeB_in h1
  by_cases h2 : strides.length = shape.length
  case neg =>
    have hv := Lib.hid (show viewB base shape strides = false by simp [viewB, h2])
    have h2' : ((strides.length : Int) == (shape.length : Int)) = false := by simp; omega
    go_enter Try.func84, Try.ntmps84
    go_wp2_with (go_at_call 110; refine (validShape_c shape _ _ lo (hsh0.out.ext ((Ext.refl _).alloc _))).mono ?_; rintro e w' ⟨rfl, rfl⟩)
    go_ret
    exact ⟨by rw [hv.out]; rfl, (Ext.refl _).alloc _⟩
  rw [h2] at hst0
  cases h3 : strides.all (inB (-60) 60)
  case false =>
    have hv := Lib.hid (show viewB base shape strides = false by simp [viewB, h3])
    go_enter Try.func84, Try.ntmps84
    go_wp2_with (first
      | (go_at_call 110; refine (validShape_c shape _ _ lo (hsh0.out.ext ((Ext.refl _).alloc _))).mono ?_; rintro e w' ⟨rfl, rfl⟩)
      | (go_at_call 73; refine (allIn_c strides _ _ _ _ lo' (hst0.out.ext ((Ext.refl _).alloc _))).mono ?_; rintro e w' ⟨rfl, rfl⟩))
    go_ret
    exact ⟨by rw [hv.out]; rfl, (Ext.refl _).alloc _⟩
  cases h4 : inB 0 60 base
  case false =>
    have hv := Lib.hid (show viewB base shape strides = false by simp [viewB, h4])
    go_enter Try.func84, Try.ntmps84
    go_wp2_with (first
      | (go_at_call 110; refine (validShape_c shape _ _ lo (hsh0.out.ext ((Ext.refl _).alloc _))).mono ?_; rintro e w' ⟨rfl, rfl⟩)
      | (go_at_call 73; refine (allIn_c strides _ _ _ _ lo' (hst0.out.ext ((Ext.refl _).alloc _))).mono ?_; rintro e w' ⟨rfl, rfl⟩)
      | (go_at_call 57; refine (inRange_c _ _ _ _).mono ?_; rintro e w' ⟨rfl, rfl⟩))
    go_ret
    exact ⟨by rw [hv.out]; rfl, (Ext.refl _).alloc _⟩
  by_cases h5 : countL shape = 0
  case pos =>
    have hv := Lib.hid (show viewB base shape strides = true by simp [viewB, h1, h2, h3, h4, offsL_zero h5])
    clear hin
    go_enter Try.func84, Try.ntmps84
    go_wp2_with (first
      | (go_at_call 110; refine (validShape_c shape _ _ lo (hsh0.out.ext ((Ext.refl _).alloc _))).mono ?_; rintro e w' ⟨rfl, rfl⟩)
      | (go_at_call 73; refine (allIn_c strides _ _ _ _ lo' (hst0.out.ext ((Ext.refl _).alloc _))).mono ?_; rintro e w' ⟨rfl, rfl⟩)
      | (go_at_call 57; refine (inRange_c _ _ _ _).mono ?_; rintro e w' ⟨rfl, rfl⟩)
      | (go_at_call 111; refine (count_c shape _ _ lo (hsh0.out.ext ((Ext.refl _).alloc _))).mono ?_; rintro e w' ⟨rfl, rfl⟩))
    go_ret
    exact ⟨by rw [hv.out]; rfl, (Ext.refl _).alloc _⟩
  have hin' := Lib.hid hin
  clear hin
  have h5' : (countL shape == 0) = false := by simpa using h5
  clear h5
  cases h6 : (offsL base shape strides).all (inB 0 59)
  all_goals
    have hv := Lib.hid (show viewB base shape strides = (offsL base shape strides).all (inB 0 59) by simp [viewB, h1, h2, h3, h4])
    rw [h6] at hv
    go_enter Try.func84, Try.ntmps84
    go_wp2_with (first
      | (go_at_call 110; refine (validShape_c shape _ _ lo (hsh0.out.ext ((Ext.refl _).alloc _))).mono ?_; rintro e w' ⟨rfl, rfl⟩)
      | (go_at_call_of 73 cap; refine (allIn_c strides _ _ _ _ lo' (hst0.out.ext ((Ext.refl _).alloc _))).mono ?_; rintro e w' ⟨rfl, rfl⟩)
      | (go_at_call 57; refine (inRange_c _ _ _ _).mono ?_; rintro e w' ⟨rfl, rfl⟩)
      | (go_at_call 111; refine (count_c shape _ _ lo (hsh0.out.ext ((Ext.refl _).alloc _))).mono ?_; rintro e w' ⟨rfl, rfl⟩)
      | (go_at_call 86; refine (offsets_c base _ _ shape strides _ lo lo' (hsh0.out.ext ((Ext.refl _).alloc _)) (hst0.out.ext ((Ext.refl _).alloc _)) (by have := hin'.out; omega) hin'.out.2.2.2.2 (by have := hin'.out; omega)).mono ?_; rintro e w1 ⟨v1, rfl, hi1, _, hx1⟩)
      | (go_at_call 73; refine (allIn_c _ _ _ _ _ _ hi1).mono ?_; rintro e w' ⟨rfl, rfl⟩))
    go_ret
    exact ⟨by rw [hv.out]; rfl, Ext.trans ((Ext.refl _).alloc _) hx1⟩

end Go.Proofs.Ytpgkhjmboiepcaa

/- The contracts of library functions, laid at this translation: no condition. -/
namespace Go.Proofs
open Go.Shelf
def Try.lays189_ren : Go.Shelf.Ren := ⟨fun | 189 => 99 | 125 => 120 | 257 => 119 | 128 => 141 | 129 => 142 | 294 => 132 | 295 => 133 | 296 => 134 | 297 => 135 | 298 => 136 | 299 => 137 | 216 => 138 | 300 => 139 | 301 => 140 | 328 => 149 | 329 => 150 | 330 => 151 | 331 => 152 | 332 => 153 | 215 => 154 | 343 => 160 | n => n, fun | 28 => 23 | 3 => 3 | 46 => 109 | 0 => 0 | 51 => 126 | 53 => 128 | 4 => 4 | 183 => 119 | 182 => 118 | 131 => 123 | 5 => 5 | 9 => 9 | 218 => 132 | 222 => 136 | 228 => 143 | 229 => 144 | n => n, fun | n => n⟩
theorem Try.lays189 : Go.Proofs.Lays.n189 Try.prog Try.lays189_ren := {
  mixed := by kernel_rfl
  f125 := Try.func120.trans (congrArg some (by kernel_rfl))
  f128 := Try.func141.trans (congrArg some (by kernel_rfl))
  f129 := Try.func142.trans (congrArg some (by kernel_rfl))
  f189 := Try.func99.trans (congrArg some (by kernel_rfl))
  f215 := Try.func154.trans (congrArg some (by kernel_rfl))
  f216 := Try.func138.trans (congrArg some (by kernel_rfl))
  f257 := Try.func119.trans (congrArg some (by kernel_rfl))
  f294 := Try.func132.trans (congrArg some (by kernel_rfl))
  f295 := Try.func133.trans (congrArg some (by kernel_rfl))
  f296 := Try.func134.trans (congrArg some (by kernel_rfl))
  f297 := Try.func135.trans (congrArg some (by kernel_rfl))
  f298 := Try.func136.trans (congrArg some (by kernel_rfl))
  f299 := Try.func137.trans (congrArg some (by kernel_rfl))
  f300 := Try.func139.trans (congrArg some (by kernel_rfl))
  f301 := Try.func140.trans (congrArg some (by kernel_rfl))
  f328 := Try.func149.trans (congrArg some (by kernel_rfl))
  f329 := Try.func150.trans (congrArg some (by kernel_rfl))
  f330 := Try.func151.trans (congrArg some (by kernel_rfl))
  f331 := Try.func152.trans (congrArg some (by kernel_rfl))
  f332 := Try.func153.trans (congrArg some (by kernel_rfl))
  f343 := Try.func160.trans (congrArg some (by kernel_rfl))
  t0 := Try.underlying0
  a0 := Try.isAgg0
  z0 := Try.sizeOf0
  v0 := Try.zeroValue0
  t3 := Try.underlying3
  a3 := Try.isAgg3
  z3 := Try.sizeOf3
  v3 := Try.zeroValue3
  t4 := Try.underlying4
  a4 := Try.isAgg4
  z4 := Try.sizeOf4
  v4 := Try.zeroValue4
  t5 := Try.underlying5
  a5 := Try.isAgg5
  z5 := Try.sizeOf5
  v5 := Try.zeroValue5
  t9 := Try.underlying9
  a9 := Try.isAgg9
  z9 := Try.sizeOf9
  v9 := Try.zeroValue9
  t28 := Try.underlying23
  a28 := Try.isAgg23
  z28 := Try.sizeOf23
  v28 := Try.zeroValue23
  t46 := Try.underlying109
  a46 := Try.isAgg109
  z46 := Try.sizeOf109
  v46 := Try.zeroValue109
  t51 := Try.underlying126
  a51 := Try.isAgg126
  z51 := Try.sizeOf126
  v51 := Try.zeroValue126
  t53 := Try.underlying128
  a53 := Try.isAgg128
  z53 := Try.sizeOf128
  v53 := Try.zeroValue128
  t131 := Try.underlying123
  a131 := Try.isAgg123
  z131 := Try.sizeOf123
  v131 := Try.zeroValue123
  t182 := Try.underlying118
  a182 := Try.isAgg118
  z182 := Try.sizeOf118
  v182 := Try.zeroValue118
  t183 := Try.underlying119
  a183 := Try.isAgg119
  z183 := Try.sizeOf119
  v183 := Try.zeroValue119
  t218 := Try.underlying132
  a218 := Try.isAgg132
  z218 := Try.sizeOf132
  v218 := Try.zeroValue132
  t222 := Try.underlying136
  a222 := Try.isAgg136
  z222 := Try.sizeOf136
  v222 := Try.zeroValue136
  t228 := Try.underlying143
  a228 := Try.isAgg143
  z228 := Try.sizeOf143
  v228 := Try.zeroValue143
  t229 := Try.underlying144
  a229 := Try.isAgg144
  z229 := Try.sizeOf144
  v229 := Try.zeroValue144 }
open Go.Sort Go.RowKit in
theorem Try.slices_Sort_int (blk off cap : Nat) (zs : List Int) (w : World) (hH : Holds (Value.int .i64) w blk off zs.toArray) (hblk : blk < w.heap.size) (hsz : zs.length < 4611686018427387904) :
    Calls Try.prog 99 #[.slice (some ⟨blk, off, none⟩) zs.length cap] w fun e w' =>
      e = .returned (.tuple #[]) ∧ ∃ n os, w' = grow (putRow (Value.int .i64) (Sort.ahead w n) blk off (zs.mergeSort fun x y => decide (x ≤ y)).toArray) os := Any.slices_Sort_int Try.lays189 blk off cap zs w hH hblk hsz
def Try.lays107_ren : Go.Shelf.Ren := ⟨fun | 107 => 45 | 108 => 89 | n => n, fun | 28 => 23 | 3 => 3 | 4 => 4 | 0 => 0 | n => n, fun | n => n⟩
theorem Try.lays107 : Go.Proofs.Lays.n107 Try.prog Try.lays107_ren := {
  mixed := by kernel_rfl
  f107 := Try.func45.trans (congrArg some (by kernel_rfl))
  f108 := Try.func89.trans (congrArg some (by kernel_rfl))
  t0 := Try.underlying0
  a0 := Try.isAgg0
  z0 := Try.sizeOf0
  v0 := Try.zeroValue0
  t3 := Try.underlying3
  a3 := Try.isAgg3
  z3 := Try.sizeOf3
  v3 := Try.zeroValue3
  t4 := Try.underlying4
  a4 := Try.isAgg4
  z4 := Try.sizeOf4
  v4 := Try.zeroValue4
  t28 := Try.underlying23
  a28 := Try.isAgg23
  z28 := Try.sizeOf23
  v28 := Try.zeroValue23 }
open Go.Lib in
theorem Try.slices_Contains_int (b off n c : Nat) (zs : List Int) (x : Int) (w : World) (hz : n ≤ zs.length) (hbig : n ≤ 9223372036854775807) (hc : ∀ j, j < zs.length → w.cell? ⟨b, off + j, none⟩ = some (.int .i64 (zs.getD j 0))) :
    Calls Try.prog 45 #[.slice (some ⟨b, off, none⟩) n c, .int .i64 x] w fun e w' => e = .returned (.bool ((zs.take n).contains x)) ∧ w' = w := Any.slices_Contains_int Try.lays107 b off n c zs x w hz hbig hc
open Go.Lib in
theorem Try.slices_Contains_int_empty (a : Option Addr) (c : Nat) (x : Int) (w : World) :
    Calls Try.prog 45 #[.slice a 0 c, .int .i64 x] w fun e w' => e = .returned (.bool false) ∧ w' = w := Any.slices_Contains_int_empty Try.lays107 a c x w
def Try.lays113_ren : Go.Shelf.Ren := ⟨fun | 113 => 94 | n => n, fun | 28 => 23 | 3 => 3 | 4 => 4 | 9 => 9 | 20 => 20 | 0 => 0 | n => n, fun | n => n⟩
theorem Try.lays113 : Go.Proofs.Lays.n113 Try.prog Try.lays113_ren := {
  mixed := by kernel_rfl
  f113 := Try.func94.trans (congrArg some (by kernel_rfl))
  t0 := Try.underlying0
  a0 := Try.isAgg0
  z0 := Try.sizeOf0
  v0 := Try.zeroValue0
  t3 := Try.underlying3
  a3 := Try.isAgg3
  z3 := Try.sizeOf3
  v3 := Try.zeroValue3
  t4 := Try.underlying4
  a4 := Try.isAgg4
  z4 := Try.sizeOf4
  v4 := Try.zeroValue4
  t9 := Try.underlying9
  a9 := Try.isAgg9
  z9 := Try.sizeOf9
  v9 := Try.zeroValue9
  t20 := Try.underlying20
  a20 := Try.isAgg20
  z20 := Try.sizeOf20
  v20 := Try.zeroValue20
  t28 := Try.underlying23
  a28 := Try.isAgg23
  z28 := Try.sizeOf23
  v28 := Try.zeroValue23 }
open Go.Lib in
theorem Try.slices_Max_int (b off n c : Nat) (zs : List Int) (w : World) (hn : 0 < n) (hz : n ≤ zs.length) (hbig : n ≤ 9223372036854775807) (hc : ∀ j, j < zs.length → w.cell? ⟨b, off + j, none⟩ = some (.int .i64 (zs.getD j 0))) :
    Calls Try.prog 94 #[.slice (some ⟨b, off, none⟩) n c] w fun e w' => e = .returned (.int .i64 (Lib.maxOf (zs.take n))) ∧ w' = w := Any.slices_Max_int Try.lays113 b off n c zs w hn hz hbig hc
def Try.laysNm220_ren : Go.Shelf.Ren := ⟨fun | 20 => 100 | n => n, fun | 22 => 23 | 3 => 3 | 4 => 4 | 0 => 0 | n => n, fun | n => n⟩
theorem Try.laysNm220 : Go.Proofs.Lays2.n20 Try.prog Try.laysNm220_ren := {
  mixed := by kernel_rfl
  f20 := Try.func100.trans (congrArg some (by kernel_rfl))
  t0 := Try.underlying0
  a0 := Try.isAgg0
  z0 := Try.sizeOf0
  v0 := Try.zeroValue0
  t3 := Try.underlying3
  a3 := Try.isAgg3
  z3 := Try.sizeOf3
  v3 := Try.zeroValue3
  t4 := Try.underlying4
  a4 := Try.isAgg4
  z4 := Try.sizeOf4
  v4 := Try.zeroValue4
  t22 := Try.underlying23
  a22 := Try.isAgg23
  z22 := Try.sizeOf23
  v22 := Try.zeroValue23
  i3 := by kernel_rfl }
open Go.RowKit Go.Lib Go.Sort in
theorem Try.slices_Compact_int (blk off cap : Nat) (zs : List Int) (w : World) (hH : Holds (Value.int .i64) w blk off zs.toArray) (hsz : zs.length ≤ 9223372036854775807) (hcap : zs.length ≤ cap) :
    Calls Try.prog 100 #[.slice (some ⟨blk, off, none⟩) zs.length cap] w fun e w' => e = .returned (.slice (some ⟨blk, off, none⟩) (Lib.compact zs).length cap) ∧ ∃ q, w' = putRow (Value.int .i64) (Sort.ahead w q) blk off (Lib.compact zs ++ List.replicate (zs.length - (Lib.compact zs).length) 0).toArray := Any.slices_Compact_int Try.laysNm220 blk off cap zs w hH hsz hcap
open Go.RowKit Go.Lib Go.Sort in
theorem Try.slices_Compact_int_empty (a : Option Addr) (cap : Nat) (w : World) :
    Calls Try.prog 100 #[.slice a 0 cap] w fun e w' => e = .returned (.slice a 0 cap) ∧ w' = w := Any.slices_Compact_int_empty Try.laysNm220 a cap w
open Go.RowKit Go.Sort in
theorem Try.slices_Sort_int_none (p : Option Addr) (cap : Nat) (w : World) :
    Calls Try.prog 99 #[.slice p 0 cap] w fun e w' => e = .returned (.tuple #[]) ∧ w' = w := Any.slices_Sort_int_none Try.lays189 p cap w
end Go.Proofs

/- Plain laws on lists of ints: ascending lists, sorted and compacted lists, lists of different numbers. -/
namespace Go.Proofs.Ytpgkhjmboiepcaa

theorem asc_ext : ∀ (a b : List Int), a.Pairwise (· < ·) → b.Pairwise (· < ·) → (∀ x, x ∈ a ↔ x ∈ b) → a = b := by
  intro a
  induction a with
  | nil =>
    intro b _ _ h
    cases b with
    | nil => rfl
    | cons y b => exact absurd ((h y).2 (List.mem_cons_self ..)) (by simp)
  | cons x a ih =>
    intro b ha hb h
    cases b with
    | nil => exact absurd ((h x).1 (List.mem_cons_self ..)) (by simp)
    | cons y b =>
      rw [List.pairwise_cons] at ha hb
      have hxy : x = y := by
        have h1 := (h x).1 (List.mem_cons_self ..)
        have h2 := (h y).2 (List.mem_cons_self ..)
        rcases List.mem_cons.1 h1 with h1 | h1
        · exact h1
        · rcases List.mem_cons.1 h2 with h2 | h2
          · exact h2.symm
          · have := hb.1 x h1; have := ha.1 y h2; omega
      subst hxy
      rw [ih b ha.2 hb.2]
      intro z
      constructor
      · intro hz
        rcases List.mem_cons.1 ((h z).1 (List.mem_cons_of_mem _ hz)) with h1 | h1
        · subst h1; have := ha.1 z hz; omega
        · exact h1
      · intro hz
        rcases List.mem_cons.1 ((h z).2 (List.mem_cons_of_mem _ hz)) with h1 | h1
        · subst h1; have := hb.1 z hz; omega
        · exact h1

theorem asc_nodup {a : List Int} (h : a.Pairwise (· < ·)) : a.Nodup := h.imp (fun h => by omega)

theorem asc_len {a xs : List Int} (h : a.Pairwise (· < ·)) (hm : ∀ x, x ∈ a ↔ x ∈ xs) : a.length = xs.length ↔ xs.Nodup := by
  constructor
  · intro hl
    rw [List.nodup_iff_count]
    intro x
    rcases Nat.lt_or_ge 1 (List.count x xs) with hc | hc
    · exfalso
      have hx : x ∈ xs := List.count_pos_iff.1 (by omega)
      have hsub : a ⊆ xs.erase x := by
        intro y hy
        have hyx := (hm y).1 hy
        by_cases e : y = x
        · subst e
          exact List.count_pos_iff.1 (by rw [List.count_erase_self]; omega)
        · exact (List.mem_erase_of_ne e).2 hyx
      have h1 := List.Nodup.length_le_of_subset (asc_nodup h) hsub
      have h2 := List.length_erase_of_mem hx
      have h3 : 0 < xs.length := List.length_pos_of_mem hx
      omega
    · exact hc
  · intro hn
    exact ((List.perm_ext_iff_of_nodup (asc_nodup h) hn).2 hm).length_eq

theorem compact_asc (zs : List Int) (hs : zs.Pairwise (· ≤ ·)) : (Lib.compact zs).Pairwise (· < ·) ∧ ∀ x, x ∈ Lib.compact zs ↔ x ∈ zs := by
  have key : ∀ m, m ≤ zs.length → (Lib.compactUpTo zs.toArray m).Pairwise (· < ·) ∧ (∀ x, x ∈ Lib.compactUpTo zs.toArray m ↔ x ∈ zs.take m) := by
    intro m
    induction m with
    | zero => intro _; simp [Lib.compactUpTo]
    | succ m ih =>
      intro hm
      obtain ⟨h1, h2⟩ := ih (by omega)
      have hlt : m < zs.length := by omega
      have hd : zs.toArray[m]! = zs[m] := by simp [hlt]
      rw [Lib.compactUpTo_succ, List.take_succ_eq_append_getElem hlt, hd]
      have hle : ∀ x, x ∈ zs.take m → x ≤ zs[m] := by
        intro x hx
        rw [← List.take_append_drop m zs, List.pairwise_append] at hs
        exact hs.2.2 x hx _ (by rw [List.drop_eq_getElem_cons hlt]; exact List.mem_cons_self ..)
      by_cases hk : Lib.keeps zs.toArray m = true
      · rw [if_pos hk]
        constructor
        · rw [List.pairwise_append]
          refine ⟨h1, by simp, ?_⟩
          intro x hx y hy
          simp at hy; subst hy
          have hx' := (h2 x).1 hx
          have h3 := hle x hx'
          rcases Int.lt_or_le x zs[m] with h | h
          · exact h
          · exfalso
            have hxe : x = zs[m] := by omega
            simp only [Lib.keeps, decide_eq_true_eq] at hk
            rcases hk with hk | hk
            · subst hk; simp at hx'
            · have hm1 : m - 1 < zs.length := by omega
              have hmpos : 0 < m := by
                rcases Nat.eq_zero_or_pos m with h0 | h0
                · subst h0; simp at hx'
                · exact h0
              have e1 : zs.toArray[m-1]! = zs[m-1] := by simp [hm1]
              rw [hd, e1] at hk
              apply hk
              have hle2 : zs[m-1] ≤ zs[m] := List.pairwise_iff_getElem.1 hs (m-1) m hm1 hlt (by omega)
              obtain ⟨i, hi, rfl⟩ := List.mem_take_iff_getElem.1 hx'
              have : zs[i] ≤ zs[m-1] := by
                rcases Nat.lt_or_ge i (m-1) with h' | h'
                · exact List.pairwise_iff_getElem.1 hs i (m-1) (by omega) hm1 h'
                · have : i = m - 1 := by omega
                  subst this; exact Int.le_refl _
              omega
        · intro x
          rw [List.mem_append, List.mem_append, h2]
      · rw [if_neg hk, List.append_nil]
        refine ⟨h1, fun x => ?_⟩
        rw [h2, List.mem_append]
        constructor
        · exact fun h => .inl h
        · rintro (h | h)
          · exact h
          · simp at h; subst h
            simp only [Lib.keeps, decide_eq_true_eq, not_or, Classical.not_not] at hk
            have hm1 : m - 1 < zs.length := by omega
            have e1 : zs.toArray[m-1]! = zs[m-1] := by simp [hm1]
            rw [hd, e1] at hk
            rw [hk.2]
            exact List.mem_take_iff_getElem.2 ⟨m-1, by omega, rfl⟩
  have := key zs.length (Nat.le_refl _)
  rw [List.take_length] at this
  exact this

def sortL (xs : List Int) : List Int := xs.mergeSort fun x y => decide (x ≤ y)
theorem sortL_len (xs : List Int) : (sortL xs).length = xs.length := List.length_mergeSort _
theorem sortL_mem (xs : List Int) (x : Int) : x ∈ sortL xs ↔ x ∈ xs := (List.mergeSort_perm _ _).mem_iff
theorem sortL_asc (xs : List Int) : (sortL xs).Pairwise (· ≤ ·) := by
  have := List.pairwise_mergeSort (le := fun x y : Int => decide (x ≤ y)) (by intro a b c; simp; omega) (by intro a b; simp; omega) xs
  exact this.imp (by simp)

theorem dedup_spec (xs : List Int) : (Lib.compact (sortL xs)).Pairwise (· < ·) ∧ ∀ x, x ∈ Lib.compact (sortL xs) ↔ x ∈ xs := by
  obtain ⟨h1, h2⟩ := compact_asc (sortL xs) (sortL_asc xs)
  exact ⟨h1, fun x => (h2 x).trans (sortL_mem xs x)⟩

/-- 0, 1, .. -/
def upL (n : Nat) : List Int := (List.range n).map fun i : Nat => (i : Int)
theorem upL_mem (n : Nat) (x : Int) : x ∈ upL n ↔ 0 ≤ x ∧ x < n := by
  simp only [upL, List.mem_map, List.mem_range]
  constructor
  · rintro ⟨i, hi, rfl⟩; omega
  · rintro ⟨h0, h1⟩; exact ⟨x.toNat, by omega, by omega⟩
theorem upL_asc (n : Nat) : (upL n).Pairwise (· < ·) := by
  rw [upL, List.pairwise_map]
  exact List.pairwise_lt_range.imp (by intros; omega)

end Go.Proofs.Ytpgkhjmboiepcaa

/- The library's sort, compact, contains, index and equal on lists of ints, in the words of these proofs. -/
namespace Go.Proofs.Ytpgkhjmboiepcaa
open Go.RowKit Go.Sort
set_option linter.unusedVariables false
set_option maxRecDepth 100000


theorem sort_c (xs : List Int) (v : Value) (w : World) (base : Nat) (h : OwnZ w base v xs) (hn : xs.length ≤ 4194304) (hbz : base ≤ w.heap.size) :
    Calls Try.prog 99 #[v] w fun e w' => e = .returned (.tuple #[]) ∧ OwnZ w' base v (sortL xs) ∧ Below base w w' := by
  rcases h with ⟨rfl, a, cap, rfl, hc, ha⟩ | h
  · refine (Try.slices_Sort_int_none a cap w).mono ?_
    rintro e w' ⟨rfl, rfl⟩
    exact ⟨rfl, .inl ⟨by simp [sortL], a, cap, rfl, hc, ha⟩, Below.refl _ _⟩
  · rcases h.2 with ⟨rfl, h0⟩ | ⟨g, cap, cur, rfl, hb, hg, hnc, hcm, hcs, ht⟩
    · obtain rfl : xs = [] := List.eq_nil_of_length_eq_zero h0
      refine (Try.slices_Sort_int_none none 0 w).mono ?_
      rintro e w' ⟨rfl, rfl⟩
      exact ⟨rfl, .inl ⟨by simp [sortL], none, 0, rfl, by simp, fun _ => rfl⟩, Below.refl _ _⟩
    · refine (Try.slices_Sort_int g 0 cap xs w (holds_of_blockI hg (by simpa using ht)) (Array.getElem?_eq_some_iff.1 hg).1 (by omega)).mono ?_
      rintro e w' ⟨rfl, n, os, rfl⟩
      refine ⟨rfl, .inr ?_, (Below.refl base w).grown (grownBy_sortedI _) hbz (fun k hk => by cases hk; exact hb)⟩
      unfold OwnI
      rw [sortL_len]
      exact ownsRow_sortedI (ts := sortL xs) (sortL_len xs) hb hg hnc hcm hcs

def hasB (xs : List Int) (x : Int) : Bool := xs.contains x
theorem contains_c (xs : List Int) (v : Value) (x : Int) (w : World) (lo : Nat) (h : Ints w lo v xs) :
    Calls Try.prog 45 #[v, .int .i64 x] w fun e w' => e = .returned (.bool (hasB xs x)) ∧ w = w' := by
  obtain ⟨a, cap, rfl, h1, h2, ⟨h3, h3'⟩, h4⟩ := h
  by_cases he : xs = []
  · subst he
    refine (Try.slices_Contains_int_empty a cap x w).mono ?_
    rintro e w' ⟨rfl, rfl⟩
    exact ⟨rfl, rfl⟩
  · have hpos : 0 < xs.length := by cases xs <;> simp_all
    obtain ⟨b, off, rfl, _⟩ := h4 0 hpos
    refine (Try.slices_Contains_int b off xs.length cap xs x w (Nat.le_refl _) (by omega) (fun j hj => by obtain ⟨b', off', he, _, hc, _⟩ := h4 j hj; cases he; exact hc)).mono ?_
    rintro e w' ⟨rfl, rfl⟩
    exact ⟨by rw [List.take_length]; rfl, rfl⟩

theorem compact_len_le (xs : List Int) : (Lib.compact xs).length ≤ xs.length := by
  unfold Lib.compact Lib.compactUpTo
  rw [List.length_map]
  exact Nat.le_trans (List.length_filter_le _ _) (by simp)

theorem compact_c (xs : List Int) (v : Value) (w : World) (base : Nat) (h : OwnZ w base v xs) (hn : xs.length ≤ 4194304) (hbz : base ≤ w.heap.size) :
    Calls Try.prog 100 #[v] w fun e w' => ∃ v', e = .returned v' ∧ OwnZ w' base v' (Lib.compact xs) ∧ v'.ownBlock = v.ownBlock ∧ Below base w w' := by
  rcases h with ⟨rfl, a, cap, rfl, hc, ha⟩ | h
  · refine (Try.slices_Compact_int_empty a cap w).mono ?_
    rintro e w' ⟨rfl, rfl⟩
    exact ⟨_, rfl, .inl ⟨rfl, a, cap, rfl, hc, ha⟩, rfl, Below.refl _ _⟩
  · rcases h.2 with ⟨rfl, h0⟩ | ⟨g, cap, cur, rfl, hb, hg, hnc, hcm, hcs, ht⟩
    · obtain rfl : xs = [] := List.eq_nil_of_length_eq_zero h0
      refine (Try.slices_Compact_int_empty none 0 w).mono ?_
      rintro e w' ⟨rfl, rfl⟩
      exact ⟨_, rfl, .inl ⟨rfl, none, 0, rfl, by simp, fun _ => rfl⟩, rfl, Below.refl _ _⟩
    · refine (Try.slices_Compact_int g 0 cap xs w (holds_of_blockI hg (by simpa using ht)) (by omega) hnc).mono ?_
      rintro e w' ⟨rfl, q, rfl⟩
      have hl := compact_len_le xs
      have hlen : (Lib.compact xs ++ List.replicate (xs.length - (Lib.compact xs).length) 0).length = xs.length := by simp; omega
      have hgr := grownBy_sortedI (w := w) (g := g) (n := q) (os := #[]) (Lib.compact xs ++ List.replicate (xs.length - (Lib.compact xs).length) 0).toArray
      have hh := heap_sortedI (n := q) (os := #[]) (Lib.compact xs ++ List.replicate (xs.length - (Lib.compact xs).length) 0).toArray hg
      rw [grow_empty] at hgr hh
      refine ⟨_, rfl, .inr ⟨by simp, .inr ⟨g, cap, _, rfl, hb, hh, by omega, hcm, by simpa [putCells] using hcs, ?_⟩⟩, rfl, (Below.refl base w).grown hgr hbz (fun k hk => by cases hk; exact hb)⟩
      have := take_putCellsI cur (Lib.compact xs ++ List.replicate (xs.length - (Lib.compact xs).length) 0) (by rw [hlen]; omega)
      rw [hlen] at this
      have h2 := congrArg (List.take (Lib.compact xs).length) this
      rw [List.take_take, Nat.min_eq_left hl] at h2
      rw [Nat.mul_one, h2]
      simp

end Go.Proofs.Ytpgkhjmboiepcaa

/- Walks: the cells of a view, told once; what two views have; places in a list; lists of different numbers. -/
namespace Go.Proofs.Ytpgkhjmboiepcaa
open Go.RowKit
set_option linter.unusedVariables false
set_option maxRecDepth 100000

def cellsL (base : Int) (shape strides : List Int) : List Int := Lib.compact (sortL (offsL base shape strides))

set_option maxHeartbeats 400000 in
theorem cellsOf_c (base : Int) (sh st : Value) (shape strides : List Int) (w : World) (lo lo' : Nat) (hsh : Ints w lo sh shape) (hst : Ints w lo' st strides) (hvb : viewB base shape strides = true) :
    Calls Try.prog 97 #[.agg #[.int .i64 base, sh, st]] w (PInts w (cellsL base shape strides)) := by
  obtain ⟨h1, h2, _⟩ := viewB_in hvb
  have hin := Lib.hid (shapeB_in h1)
  clear hvb h1
  have h2 := Lib.hid h2
  have hlen : (offsL base shape strides).length ≤ 60 := by simp [offsL]; have := hin.out; omega
  go_enter Try.func97, Try.ntmps97
  go_wp2_with fail
  refine (offsetsOf_c base _ _ shape strides _ lo lo' (hsh.ext ((Ext.refl _).alloc _)) (hst.ext ((Ext.refl _).alloc _)) (by have := h2.out; omega) hin.out.2.2.2.2 (by have := hin.out; omega)).mono ?_
  rintro e w1 ⟨v1, rfl, _, ho1, hx1⟩
  go_wp2_with fail
  have hz1 := hx1.size
  simp at hz1
  have hX1 : Ext w w1 := Ext.trans ((Ext.refl _).alloc _) hx1
  refine (sort_c _ _ _ w.heap.size (ho1.lower (by simp)) (by omega) (by omega)).mono ?_
  rintro e w2 ⟨rfl, ho2, hb2⟩
  have hz2 := hb2.size
  go_wp2_with fail
  refine (compact_c _ _ _ w.heap.size ho2 (by rw [sortL_len]; omega) (by omega)).mono ?_
  rintro e w3 ⟨v3, rfl, ho3, he3, hb3⟩
  have hc := compact_len_le (sortL (offsL base shape strides))
  rw [sortL_len] at hc
  have hX3 := (hX1.below hb2 (Nat.le_refl _)).below hb3 (Nat.le_refl _)
  clear hx1 ho1 ho2 hb2 hb3 he3
  go_wp2_with fail
  go_ret
  exact PInts.mkz ho3 (Nat.le_refl _) (by unfold cellsL; omega) hX3

/-- the numbers 0, 1, .., less than n, that pass -/
def bothL (a b : List Int) : List Int := (upL 60).filter fun x => a.contains x && b.contains x

end Go.Proofs.Ytpgkhjmboiepcaa

/- Walks: one to one views, what two views have, and the program's exported questions about them. -/
namespace Go.Proofs.Ytpgkhjmboiepcaa
open Go.RowKit
set_option linter.unusedVariables false
set_option maxRecDepth 100000

theorem offs_len {base : Int} {shape strides : List Int} (h : viewB base shape strides = true) : (offsL base shape strides).length ≤ 60 := by
  obtain ⟨h1, _⟩ := viewB_in h
  have := shapeB_in h1
  simp [offsL]; omega
theorem cells_len {base : Int} {shape strides : List Int} (h : viewB base shape strides = true) : (cellsL base shape strides).length ≤ 60 := by
  have := offs_len h
  have h2 := compact_len_le (sortL (offsL base shape strides))
  rw [sortL_len] at h2; unfold cellsL; omega

def oneB (base : Int) (shape strides : List Int) : Bool := ((cellsL base shape strides).length : Int) == countL shape

set_option maxHeartbeats 400000 in
theorem isOneToOne_c (base : Int) (sh st : Value) (shape strides : List Int) (w : World) (lo lo' : Nat) (hsh : Ints w lo sh shape) (hst : Ints w lo' st strides) (hvb : viewB base shape strides = true) :
    Calls Try.prog 61 #[.agg #[.int .i64 base, sh, st]] w fun e w' => e = .returned (.bool (oneB base shape strides)) ∧ Ext w w' := by
  have hvb := Lib.hid hvb
  go_enter Try.func61, Try.ntmps61
  go_wp2_with fail
  have hx0 : Ext w (w.alloc (.cells #[.int .i64 base, sh, st] 25)) := (Ext.refl _).alloc _
  go_region_held3 (fun w' => w'.cell? ⟨w.heap.size, 0, none⟩ = some (.int .i64 base) ∧ w'.cell? ⟨w.heap.size, 1, none⟩ = some sh ∧ w'.cell? ⟨w.heap.size, 2, none⟩ = some st)
    (first
      | go_keep
      | exact ⟨X1.cell (by simp), X1.cell (by simp), X1.cell (by simp)⟩)
    (first
      | (go_at_call 97; refine (cellsOf_c base _ _ shape strides _ lo lo' (hsh.ext (hx0.trans qXo)) (hst.ext (hx0.trans qXo)) hvb.out).mono ?_; rintro e w1 ⟨v1, rfl, hi1, _, hx1⟩; obtain ⟨a1, c1, rfl⟩ := hi1.form; have X1 : Ext (w.alloc (.cells #[.int .i64 base, sh, st] 25)) w1 := Ext.trans qXo hx1)
      | (go_at_call 47; refine (countOf_c shape _ _ lo (hsh.ext (hx0.trans qXo))).mono ?_; rintro e w' ⟨rfl, rfl⟩))
  all_goals
    go_wp2_with fail
    go_ret
    exact ⟨rfl, hx0.trans X1⟩

def overL (a b : List Int) : List Int := a.filter fun x => hasB b x
theorem overL_take (a b : List Int) (k : Nat) (hk : k < a.length) : overL (a.take (k+1)) b = overL (a.take k) b ++ if hasB b a[k] then [a[k]] else [] := by
  unfold overL; rw [List.take_succ_eq_append_getElem hk, List.filter_append]; congr 1; simp only [List.filter_cons, List.filter_nil]
theorem overL_len (a b : List Int) : (overL a b).length ≤ a.length := List.length_filter_le _ _

set_option maxHeartbeats 1000000 in
theorem overlapOf_c (base : Int) (sh st : Value) (shape strides : List Int) (base2 : Int) (sh2 st2 : Value) (shape2 strides2 : List Int) (w : World) (la lb lc ld : Nat)
    (hsh : Ints w la sh shape) (hst : Ints w lb st strides) (hsh2 : Ints w lc sh2 shape2) (hst2 : Ints w ld st2 strides2) (hvb : viewB base shape strides = true) (hvb2 : viewB base2 shape2 strides2 = true) :
    Calls Try.prog 60 #[.agg #[.int .i64 base, sh, st], .agg #[.int .i64 base2, sh2, st2]] w (PInts w (overL (cellsL base shape strides) (cellsL base2 shape2 strides2))) := by
  have hl1 := cells_len hvb
  have hvb := Lib.hid hvb
  have hvb2 := Lib.hid hvb2
  go_enter Try.func60, Try.ntmps60
  go_wp2_with fail
  refine (cellsOf_c base2 _ _ shape2 strides2 _ lc ld (hsh2.ext qXo) (hst2.ext qXo) hvb2.out).mono ?_
  rintro e w1 ⟨v1, rfl, hi1, _, hx1⟩
  have R1 := hx1.rule
  have X1 : Ext w w1 := Ext.trans qXo hx1
  have hz1 := hx1.size
  simp at hz1
  have hz1a : w.heap.size < w1.heap.size := by omega
  have hz1b : w.heap.size + 1 < w1.heap.size := by omega
  go_wp2_with fail
  refine (cellsOf_c base _ _ shape strides _ la lb (hsh.ext (X1.trans qXo)) (hst.ext (X1.trans qXo)) hvb.out).mono ?_
  rintro e w2 ⟨v2, rfl, hi2, _, hx2⟩
  have X12 : Ext w1 w2 := Ext.trans qXo hx2
  have ho2 : OwnI w2 w1.heap.size (.slice (some ⟨w1.heap.size, 0, none⟩) 0 0) [] := (OwnI.lit0 w1 w1.heap.size (Nat.le_refl _)).ext hx2
  have hi1' := hi1.ext X12
  have hz2 := X12.size
  obtain ⟨a2, cap2, rfl⟩ := hi2.form
  have hne0 : ∀ b off, a2 = some ⟨b, off, none⟩ → cellsL base shape strides ≠ [] → some w1.heap.size ≠ some b := by
    intro b off h1 h2 h3
    obtain ⟨b', off', h4, h5, _⟩ := hi2.blk h2
    rw [h1] at h4; cases h4; cases h3; simp at h5; omega
  obtain ⟨a3, cap3, rfl⟩ := hi1.form
  have hne1 : ∀ b off, a3 = some ⟨b, off, none⟩ → cellsL base2 shape2 strides2 ≠ [] → some w1.heap.size ≠ some b := by
    intro b off h1 h2 h3
    obtain ⟨b', off', h4, h5, h6⟩ := hi1.blk h2
    rw [h1] at h4; cases h4; cases h3; omega
  clear R1 hx1 hi1
  have hne0 := Lib.hid hne0
  have hne1 := Lib.hid hne1
  go_wp2_with fail
  go_loopw [6, 15] (fun v i wr => ∃ k : Nat, k ≤ (cellsL base shape strides).length ∧ i = .int .i64 k ∧ OwnI wr w1.heap.size v (overL ((cellsL base shape strides).take k) (cellsL base2 shape2 strides2)) ∧ Below w1.heap.size w1 wr ∧
     Ints wr 0 (.slice a2 (cellsL base shape strides).length cap2) (cellsL base shape strides) ∧ Ints wr 0 (.slice a3 (cellsL base2 shape2 strides2).length cap3) (cellsL base2 shape2 strides2) ∧ w1.heap.size ≤ wr.heap.size ∧
     (∀ b off, a2 = some ⟨b, off, none⟩ → cellsL base shape strides ≠ [] → v.ownBlock ≠ some b) ∧ (∀ b off, a3 = some ⟨b, off, none⟩ → cellsL base2 shape2 strides2 ≠ [] → v.ownBlock ≠ some b)) (fun _ i _ => (cellsL base shape strides).length - (intOf i).toNat)
  case atStart => exact ⟨0, Nat.zero_le _, rfl, ho2, X12, hi2.lower (Nat.zero_le _), hi1'.lower (Nat.zero_le _), hz2, hne0.out, hne1.out⟩
  case round =>
    obtain ⟨k, hk, rfl, ho, hb, hic, hic2, hz, hn0, hn1⟩ := hrel
    have hn0 := Lib.hid hn0
    have hn1 := Lib.hid hn1
    by_cases hlt : k < (cellsL base shape strides).length
    · have hic' := Lib.hid hic
      have hic2' := Lib.hid hic2
      obtain ⟨_, _, hv, _, _, ⟨hl4, _⟩, hc⟩ := hic
      cases hv
      obtain ⟨b, off, rfl, _, hcell, _⟩ := hc k hlt
      have hs := Lib.hid (overL_take (cellsL base shape strides) (cellsL base2 shape2 strides2) k hlt)
      have hll := Lib.hid (overL_len ((cellsL base shape strides).take k) (cellsL base2 shape2 strides2))
      have hgd : (cellsL base shape strides).getD k 0 = (cellsL base shape strides)[k] := by simp [hlt]
      rw [hgd] at hcell
      clear hc hgd
      cases h1 : hasB (cellsL base2 shape2 strides2) (cellsL base shape strides)[k]
      · have h1' := Lib.hid h1
        go_wp2_with (go_at_call 45; refine (contains_c _ _ _ _ 0 hic2'.out).mono ?_; rintro e w' ⟨rfl, rfl⟩)
        go_roundw
        case rel => exact ⟨k+1, by omega, by go_num, by rw [hs.out, h1'.out]; simpa using ho, hb, hic'.out, hic2'.out, hz, hn0.out, hn1.out⟩
        case measure => simp [intOf]; omega
      · have h1' := Lib.hid h1
        go_wp2_with fail
        refine (contains_c _ _ _ _ 0 hic2'.out).mono ?_; rintro e w' ⟨rfl, rfl⟩
        go_wp2_with (at_builtin; refine wpList_app rfl (.tmp 22) (.tmp 24) rfl rfl rfl (ho.ext ((Ext.refl _).alloc _)) (Ints.one _ 0 _ (Nat.zero_le _)) (by have := hll.out; simp only [List.length_cons, List.length_nil, List.length_take] at this ⊢; omega) (by simp; omega) ?_)
        intro v' w3 ho3 hg3 hb3 hv3
        have hcell3 := (hic'.out.ext ((Ext.refl _).alloc (.cells #[.int .i64 (cellsL base shape strides)[k]] 3))).keepG hg3 hn0.out
        have hcell4 := (hic2'.out.ext ((Ext.refl _).alloc (.cells #[.int .i64 (cellsL base shape strides)[k]] 3))).keepG hg3 hn1.out
        have hb4 := (hb.alloc hz (.cells #[.int .i64 (cellsL base shape strides)[k]] 3)).trans hb3
        have hz4 := hb3.size
        simp at hz4
        have hv3 := Lib.hid hv3
        have ho3 := Lib.hid ho3
        have hcell3 := Lib.hid hcell3
        have hcell4 := Lib.hid hcell4
        clear hg3 hb3 ho hb hcell
        go_wp2_with fail
        go_roundw
        case rel =>
          refine ⟨k+1, by omega, by go_num, by rw [hs.out, h1'.out]; simpa using ho3.out, hb4, hcell3.out, hcell4.out, by omega, ?_, ?_⟩
          · intro b' off' e1 e2
            rcases hv3.out with h | h
            · rw [h]; exact hn0.out _ _ e1 e2
            · rw [h]
              obtain ⟨b'', off'', e3, _, e4⟩ := hic'.out.blk e2
              rw [e1] at e3; cases e3; simp; omega
          · intro b' off' e1 e2
            rcases hv3.out with h | h
            · rw [h]; exact hn1.out _ _ e1 e2
            · rw [h]
              obtain ⟨b'', off'', e3, _, e4⟩ := hic2'.out.blk e2
              rw [e1] at e3; cases e3; simp; omega
        case measure => simp [intOf]; omega
    · obtain rfl : k = (cellsL base shape strides).length := by omega
      have ho := Lib.hid ho
      clear hic
      go_wp2_with fail
      go_ret
      refine PInts.mk (by have := ho.out; rw [List.take_length] at this; exact this) (by omega) ?_ (X1.below hb (by omega))
      have := overL_len (cellsL base shape strides) (cellsL base2 shape2 strides2); omega

end Go.Proofs.Ytpgkhjmboiepcaa

/- Plain laws: the program's words on cells are the reference's. -/
namespace Go.Proofs.Ytpgkhjmboiepcaa
open Go.RowKit

theorem bothL_spec (a b : List Int) : (bothL a b).Pairwise (· < ·) ∧ ∀ x, x ∈ bothL a b ↔ (0 ≤ x ∧ x < 60) ∧ x ∈ a ∧ x ∈ b := by
  constructor
  · exact (upL_asc 60).filter _
  · intro x
    simp only [bothL, List.mem_filter, upL_mem, Bool.and_eq_true, List.contains_iff_mem]
    exact Iff.rfl

theorem cellsL_spec (base : Int) (shape strides : List Int) : (cellsL base shape strides).Pairwise (· < ·) ∧ ∀ x, x ∈ cellsL base shape strides ↔ x ∈ offsL base shape strides := dedup_spec _

theorem over_both {base : Int} {shape strides : List Int} {base2 : Int} {shape2 strides2 : List Int} (h : viewB base shape strides = true) :
    overL (cellsL base shape strides) (cellsL base2 shape2 strides2) = bothL (offsL base shape strides) (offsL base2 shape2 strides2) := by
  obtain ⟨h1, h2⟩ := cellsL_spec base shape strides
  obtain ⟨_, h2'⟩ := cellsL_spec base2 shape2 strides2
  obtain ⟨h3, h4⟩ := bothL_spec (offsL base shape strides) (offsL base2 shape2 strides2)
  refine asc_ext _ _ (h1.filter _) h3 fun x => ?_
  rw [h4]
  obtain ⟨_, _, _, _, h5⟩ := viewB_in h
  simp only [overL, List.mem_filter, hasB, List.contains_iff_mem, h2, h2']
  exact ⟨fun hx => ⟨by have := h5 x hx.1; omega, hx⟩, fun hx => hx.2⟩

theorem one_diff {base : Int} {shape strides : List Int} (h : viewB base shape strides = true) : oneB base shape strides = decide (offsL base shape strides).Nodup := by
  obtain ⟨h1, h2⟩ := cellsL_spec base shape strides
  have hl := asc_len h1 h2
  have hin := shapeB_in (viewB_in h).1
  have hc : ((offsL base shape strides).length : Int) = countL shape := by simp [offsL]; omega
  unfold oneB
  rw [Bool.eq_iff_iff, decide_eq_true_eq, ← hl]
  simp; omega

end Go.Proofs.Ytpgkhjmboiepcaa

/- Plain laws on ranges of ints: the numbers of a range, normal forms, progressions. -/
namespace Go.Proofs.Ytpgkhjmboiepcaa
set_option linter.unusedVariables false

/-- sets of numbers that go on by their own differences -/
def ApS (S : Int → Prop) : Prop := ∀ x y z u v, S x → S y → S z → S u → S v → x ≤ z + (v - u) → z + (v - u) ≤ y → S (z + (v - u))
theorem ApS.and {S T : Int → Prop} (h : ApS S) (k : ApS T) : ApS fun x => S x ∧ T x :=
  fun x y z u v hx hy hz hu hv h1 h2 => ⟨h x y z u v hx.1 hy.1 hz.1 hu.1 hv.1 h1 h2, k x y z u v hx.2 hy.2 hz.2 hu.2 hv.2 h1 h2⟩
theorem ApS.congr {S T : Int → Prop} (h : ApS S) (k : ∀ x, S x ↔ T x) : ApS T :=
  fun x y z u v hx hy hz hu hv h1 h2 => (k _).1 (h x y z u v ((k _).2 hx) ((k _).2 hy) ((k _).2 hz) ((k _).2 hu) ((k _).2 hv) h1 h2)
end Go.Proofs.Ytpgkhjmboiepcaa

/- Plain laws: repeated cells, gaps between cells, later and earlier cells. -/
namespace Go.Proofs.Ytpgkhjmboiepcaa
open Go.RowKit
set_option linter.unusedVariables false

end Go.Proofs.Ytpgkhjmboiepcaa

/- Walks of the laws' own helpers on lists of ints and on views. -/
namespace Go.Proofs.Ytpgkhjmboiepcaa
open Go.RowKit
set_option linter.unusedVariables false
set_option maxRecDepth 100000

/-- a slice of ints that came in -/
def Raw (w : World) (v : Value) (xs : List Int) : Prop :=
  ∃ a cap, v = .slice a xs.length cap ∧ (a = none → cap = 0) ∧
    ∀ i, i < xs.length → ∃ b off, a = some ⟨b, off, none⟩ ∧ w.cell? ⟨b, off + i, none⟩ = some (.int .i64 (xs.getD i 0))

theorem Raw.ext {w w' : World} {v : Value} {xs : List Int} (h : Raw w v xs) (hx : Ext w w') : Raw w' v xs := by
  obtain ⟨a, cap, hv, h1, h2⟩ := h
  refine ⟨a, cap, hv, h1, fun i hi => ?_⟩
  obtain ⟨b, off, ha, hc⟩ := h2 i hi
  exact ⟨b, off, ha, hx.cell hc⟩

end Go.Proofs.Ytpgkhjmboiepcaa

/- Walks: memories, fits, copies of lists and views. -/
namespace Go.Proofs.Ytpgkhjmboiepcaa
open Go.RowKit
set_option linter.unusedVariables false
set_option maxRecDepth 100000

set_option maxHeartbeats 400000 in
theorem copyInts_c (xs : List Int) (v : Value) (w : World) (lo : Nat) (hv : Ints w lo v xs) :
    Calls Try.prog 42 #[v] w (PInts w xs) := by
  have hlen : xs.length ≤ 4194304 := by obtain ⟨_, _, _, _, _, ⟨h, _⟩, _⟩ := hv; exact h
  go_enter Try.func42, Try.ntmps42
  go_wp2_with (at_builtin; refine wpList_app rfl (.tmp 3) (.tmp 4) rfl rfl rfl (OwnI.lit0 w w.heap.size (Nat.le_refl _)) (hv.ext ((Ext.refl _).alloc _)) (by simpa using hlen) (by simp) ?_)
  intro v' w1 ho hg hb _
  have hx : Ext w w1 := ((Ext.refl w).alloc _).below hb (Nat.le_refl _)
  clear hg hb
  have ho := Lib.hid ho
  go_wp2
  go_ret
  exact PInts.mk ho.out (Nat.le_refl _) hlen hx

/-- a call hands back a new view -/
def PView (w : World) (base : Int) (shape strides : List Int) (e : Ending) (w' : World) : Prop :=
  ∃ sh st, e = .returned (.agg #[.int .i64 base, sh, st]) ∧ Ints w' w.heap.size sh shape ∧ Ints w' w.heap.size st strides ∧ OwnZ w' w.heap.size sh shape ∧ OwnZ w' w.heap.size st strides ∧
    (shape ≠ [] → strides ≠ [] → sh.ownBlock ≠ st.ownBlock) ∧ Ext w w'

theorem PView.mk {w w' : World} {base : Int} {shape strides : List Int} {v1 v2 : Value} {b1 b2 : Nat} (o1 : OwnZ w' b1 v1 shape) (o2 : OwnZ w' b2 v2 strides) (h1 : w.heap.size ≤ b1) (h2 : w.heap.size ≤ b2)
    (hd : shape ≠ [] → ∃ g, v1.ownBlock = some g ∧ g < b2) (l1 : shape.length ≤ 4194304) (l2 : strides.length ≤ 4194304) (hx : Ext w w') : PView w base shape strides (.returned (.agg #[.int .i64 base, v1, v2])) w' := by
  refine ⟨v1, v2, rfl, (o1.lower h1).ints l1, (o2.lower h2).ints l2, o1.lower h1, o2.lower h2, fun n1 n2 => ?_, hx⟩
  obtain ⟨g1, e1, t1⟩ := hd n1
  obtain ⟨g2, e2, t2, _⟩ := o2.lt n2
  rw [e1, e2]; simp; omega

theorem OwnZ.setCell_below {w : World} {base : Nat} {v : Value} {xs : List Int} (h : OwnZ w base v xs) {a : Addr} (ha : a.block < base) (u : Value) : OwnZ (w.setCell a u) base v xs :=
  h.imp id fun h => ownsRow_setCell_below h ha u

theorem copy_close {w w0 w1 w2 : World} {base : Int} {v1 v2 : Value} {shape strides : List Int} (hx0 : Ext w w0) (h1 : Ext w0 w1) (o1 : OwnZ w1 w0.heap.size v1 shape) (h2 : Ext w1 w2) (o2 : OwnZ w2 w1.heap.size v2 strides)
    (hz : w.heap.size + 1 < w0.heap.size) (l1 : shape.length ≤ 4194304) (l2 : strides.length ≤ 4194304) (a b c : Addr) (ha : a.block = w.heap.size + 1) (hb : b.block = w.heap.size + 1) (hc : c.block = w.heap.size + 1) (u v x : Value) :
    PView w base shape strides (.returned (.agg #[.int .i64 base, v1, v2])) (((w2.setCell a u).setCell b v).setCell c x) := by
  have z0 := hx0.size
  have z1 := h1.size
  have o1' := (((o1.ext h2).setCell_below (a := a) (by omega) u).setCell_below (a := b) (by omega) v).setCell_below (a := c) (by omega) x
  have o2' := ((o2.setCell_below (a := a) (by omega) u).setCell_below (a := b) (by omega) v).setCell_below (a := c) (by omega) x
  refine ⟨v1, v2, rfl, (o1'.lower (by omega)).ints l1, (o2'.lower (by omega)).ints l2, o1'.lower (by omega), o2'.lower (by omega), fun n1 n2 => ?_, ?_⟩
  · obtain ⟨g1, e1, _, t1⟩ := o1.lt n1
    obtain ⟨g2, e2, b2, _⟩ := o2.lt n2
    rw [e1, e2]; simp; omega
  · exact (((hx0.trans (h1.trans h2)).setCell (by omega) _).setCell (by omega) _).setCell (by omega) _

end Go.Proofs.Ytpgkhjmboiepcaa

/- Walks of the laws' helpers on views: copies and comparisons. -/
namespace Go.Proofs.Ytpgkhjmboiepcaa
open Go.RowKit
set_option linter.unusedVariables false
set_option maxRecDepth 100000

end Go.Proofs.Ytpgkhjmboiepcaa

/- Walks of the laws' marks on lists and on views. -/
namespace Go.Proofs.Ytpgkhjmboiepcaa
open Go.RowKit
set_option linter.unusedVariables false
set_option maxRecDepth 100000

end Go.Proofs.Ytpgkhjmboiepcaa

/- The laws' helpers in the form that the laws' walks take; rows under marks. No condition. -/
namespace Go.Proofs.Ytpgkhjmboiepcaa
open Go.RowKit
set_option linter.unusedVariables false

theorem Ext.size {w w' : World} (h : Ext w w') : w.heap.size ≤ w'.heap.size := Below.size h
theorem Ints.len {w : World} {lo : Nat} {v : Value} {xs : List Int} (h : Ints w lo v xs) : xs.length ≤ 4194304 := by obtain ⟨_, _, _, _, _, ⟨h, _⟩, _⟩ := h; exact h
theorem OwnZ.bound {w : World} {base : Nat} {v : Value} {xs : List Int} (h : OwnZ w base v xs) : xs ≠ [] → ∀ g, v.ownBlock = some g → g < w.heap.size := by
  intro hn g hg
  obtain ⟨g', e, _, hl⟩ := h.lt hn
  rw [e] at hg; cases hg; exact hl
theorem OwnZ.chgB {w w' : World} {lo hi base : Nat} {v : Value} {xs : List Int} (h : OwnZ w base v xs) (k : Chg lo hi w w') (hb : xs ≠ [] → ∀ g, v.ownBlock = some g → g < lo) : OwnZ w' base v xs := by
  rcases h with h | h
  · exact .inl h
  · by_cases hx : xs = []
    · subst hx
      obtain ⟨h1, h2⟩ := h
      rcases h2 with ⟨rfl, _⟩ | ⟨g, cap, cur, rfl, hg, hh, h3, h4, r⟩
      · exact .inl ⟨rfl, none, 0, rfl, by simp, fun _ => rfl⟩
      · exact .inl ⟨rfl, _, cap, rfl, h4, fun h => by cases h⟩
    · obtain ⟨h1, h2⟩ := h
      rcases h2 with h2 | ⟨g, cap, cur, rfl, hg, hh, r⟩
      · exact .inr ⟨h1, .inl h2⟩
      · exact .inr ⟨h1, .inr ⟨g, cap, cur, rfl, hg, (k.block g (Array.getElem?_eq_some_iff.1 hh).1 (.inl (hb hx g rfl))).trans hh, r⟩⟩
end Go.Proofs.Ytpgkhjmboiepcaa

/- Words for loops that append to a row of their own beside a list that they read. No condition. -/
namespace Go.Proofs.Ytpgkhjmboiepcaa
open Go.RowKit
set_option linter.unusedVariables false

theorem Ext.frz {w w' : World} (h : Ext w w') {b o : Nat} {f : Bool} (hb : b < w.heap.size) (hf : w.frozen? ⟨b, o, none⟩ = f) : w'.frozen? ⟨b, o, none⟩ = f := (h.frule b o hb).trans hf

/-- the row v of the call's own, blocks from B on, reads ys; the list u, which is only read, lies apart from it -/
structure Beside (B : Nat) (w0 wr : World) (v : Value) (ys : List Int) (u : Value) (xs : List Int) : Prop where
  own : OwnI wr B v ys
  bel : Below B w0 wr
  ints : Ints wr 0 u xs
  size : B ≤ wr.heap.size
  sep : xs ≠ [] → ∀ b off n c, u = .slice (some ⟨b, off, none⟩) n c → v.ownBlock ≠ some b

theorem Beside.ext {B : Nat} {w0 wr w3 : World} {v u : Value} {ys xs : List Int} (h : Beside B w0 wr v ys u xs) (hx : Ext wr w3) : Beside B w0 w3 v ys u xs :=
  ⟨h.own.ext hx, Below.trans h.bel (Below.mono hx h.size), h.ints.ext hx, Nat.le_trans h.size hx.size, h.sep⟩

theorem Ints.drop {w : World} {lo : Nat} {a : Option Addr} {n c : Nat} {xs : List Int} (h : Ints w lo (.slice a n c) xs) (k : Nat) (hk : k ≤ n) : Ints w lo (.slice (if c = k then a else a.map (·.add k)) (n - k) (c - k)) (xs.drop k) := by
  obtain ⟨a', cap, hv, h1, h2, ⟨h3, h3'⟩, h4⟩ := h
  cases hv
  have hl : (xs.drop k).length = xs.length - k := by simp
  refine ⟨_, c - k, by rw [hl], by omega, by omega, ⟨by omega, fun e => ?_⟩, fun i hi => ?_⟩
  · by_cases hc : c = k
    · omega
    · rw [if_neg hc] at e
      cases a with
      | none => have := h3' rfl; omega
      | some ad => simp at e
  · obtain ⟨b, off, rfl, hb, hc, hf⟩ := h4 (k + i) (by omega)
    rw [if_neg (by omega)]
    have e : (⟨b, off, none⟩ : Addr).add k = ⟨b, off + k, none⟩ := by unfold Addr.add; split <;> simp_all
    refine ⟨b, off + k, by rw [Option.map_some, e], hb, ?_, by rw [Nat.add_assoc]; exact hf⟩
    rw [Nat.add_assoc, hc]
    simp [show k + i < xs.length by omega]

theorem PInts.of {w w' : World} {lo base : Nat} {xs : List Int} {v : Value} (h : OwnZ w' base v xs) (hi : Ints w' lo v xs) (hb : w.heap.size ≤ base) (hx : Ext w w') : PInts w xs (.returned v) w' := PInts.mkz h hb hi.len hx

theorem OwnI.made (w : World) (base n : Nat) (hb : base ≤ w.heap.size) (hn : n ≤ 4194304) : OwnI (w.alloc (.cells (madeCells #[Value.int .i64 0] n) 3)) base (.slice (some ⟨w.heap.size, 0, none⟩) n n) (List.replicate n 0) := by
  have := World.ownsRow_lit (e := 3) (size := 1) w (madeCells #[Value.int .i64 0] n) n hb (by unfold maxLen; omega) (by simp [madeCells])
  unfold OwnI
  rw [made_ints] at this
  simpa using this

end Go.Proofs.Ytpgkhjmboiepcaa

/- Walks: WayOf of the program and of the reference. -/
namespace Go.Proofs.Ytpgkhjmboiepcaa
open Go.RowKit
set_option linter.unusedVariables false
set_option maxRecDepth 100000

end Go.Proofs.Ytpgkhjmboiepcaa

/- Walks: values that are loaded from and stored in memories, of the program and of the reference. -/
namespace Go.Proofs.Ytpgkhjmboiepcaa
open Go.RowKit
set_option linter.unusedVariables false
set_option maxRecDepth 100000

/-- a list after the first k stores -/
def putUp (mem ix vs : List Int) (k : Nat) : List Int := (List.range k).foldl (fun m i => m.set (ix.getD i 0).toNat (vs.getD i 0)) mem
theorem putUp_succ (mem ix vs : List Int) (k : Nat) : putUp mem ix vs (k+1) = (putUp mem ix vs k).set (ix.getD k 0).toNat (vs.getD k 0) := by
  unfold putUp; rw [List.range_succ, List.foldl_append]; rfl
theorem putUp_len (mem ix vs : List Int) (k : Nat) : (putUp mem ix vs k).length = mem.length := by
  induction k with
  | zero => rfl
  | succ k ih => rw [putUp_succ, List.length_set, ih]
theorem OwnI.row {w : World} {base : Nat} {v : Value} {xs : List Int} (h : OwnI w base v xs) (hn : xs ≠ []) : ∃ g cap, v = .slice (some ⟨g, 0, none⟩) xs.length cap ∧ base ≤ g ∧ g < w.heap.size := by
  rcases h.2 with ⟨rfl, h0⟩ | ⟨g, cap, cur, rfl, hb, hg, _⟩
  · exact absurd (List.eq_nil_of_length_eq_zero h0) hn
  · exact ⟨g, cap, rfl, hb, (Array.getElem?_eq_some_iff.1 hg).1⟩

end Go.Proofs.Ytpgkhjmboiepcaa

/- Walks: SwapViews of the program and of the reference. -/
namespace Go.Proofs.Ytpgkhjmboiepcaa
open Go.RowKit
set_option linter.unusedVariables false
set_option maxRecDepth 100000

/-- a call hands back a new list and whether it could be made -/
def PIntsB (w : World) (xs : List Int) (b : Bool) (e : Ending) (w' : World) : Prop := ∃ v, e = .returned (.tuple #[v, .bool b]) ∧ Ints w' w.heap.size v xs ∧ OwnZ w' w.heap.size v xs ∧ Ext w w'
theorem PIntsB.no {w w' : World} (h : Ext w w') : PIntsB w [] false (.returned (.tuple #[.slice none 0 0, .bool false])) w' :=
  ⟨_, rfl, Ints.nil _ _ _ _ (by simp) (fun _ => rfl), .inl ⟨rfl, none, 0, rfl, by simp, fun _ => rfl⟩, h⟩
theorem PIntsB.yes {w w' : World} {lo base : Nat} {xs : List Int} {v : Value} (h : OwnZ w' base v xs) (hi : Ints w' lo v xs) (hb : w.heap.size ≤ base) (hx : Ext w w') : PIntsB w xs true (.returned (.tuple #[v, .bool true])) w' :=
  ⟨v, rfl, (h.lower hb).ints hi.len, h.lower hb, hx⟩
end Go.Proofs.Ytpgkhjmboiepcaa

/- Walks: CellsOf and OverlapOf of the program and of the reference. -/
namespace Go.Proofs.Ytpgkhjmboiepcaa
open Go.RowKit
set_option linter.unusedVariables false
set_option maxRecDepth 100000

end Go.Proofs.Ytpgkhjmboiepcaa

/- Walks: normal forms of ranges, LineOf of the program and of the reference, comparison of ranges. -/
namespace Go.Proofs.Ytpgkhjmboiepcaa
open Go.RowKit
set_option linter.unusedVariables false
set_option maxRecDepth 100000

end Go.Proofs.Ytpgkhjmboiepcaa

/- Walks: valid ranges and the numbers of a range, of the program and of the reference. -/
namespace Go.Proofs.Ytpgkhjmboiepcaa
open Go.RowKit
set_option linter.unusedVariables false
set_option maxRecDepth 100000

end Go.Proofs.Ytpgkhjmboiepcaa

/- Plain laws: products of extents, ranks of indices, other shapes of the same cells. -/
namespace Go.Proofs.Ytpgkhjmboiepcaa
open Go.RowKit
set_option linter.unusedVariables false

/-- the product of extents, unbounded -/
def prodL (xs : List Int) : Int := xs.foldr (· * ·) 1
theorem prodL_cons (x : Int) (xs : List Int) : prodL (x :: xs) = x * prodL xs := rfl
theorem prodL_pos {xs : List Int} (h : ∀ e ∈ xs, 1 ≤ e) : 1 ≤ prodL xs := by
  induction xs with
  | nil => simp [prodL]
  | cons x xs ih =>
    have h1 := h x (List.mem_cons_self ..)
    have h2 := ih (fun e he => h e (List.mem_cons_of_mem _ he))
    rw [prodL_cons]
    have := Int.mul_le_mul h1 h2 (by omega) (by omega)
    simpa using this
/-- a few extents, none of them great -/
def Small (xs : List Int) : Prop := xs.length ≤ 4 ∧ ∀ e ∈ xs, 0 ≤ e ∧ e ≤ 60
theorem Small.of {xs : List Int} (h : shapeB xs = true) : Small xs := ⟨(shapeB_in h).1, (shapeB_in h).2.1⟩
theorem Small.drop {xs : List Int} (h : Small xs) (k : Nat) : Small (xs.drop k) := ⟨by have := h.1; simp; omega, fun e he => h.2 e (List.mem_of_mem_drop he)⟩
theorem Small.take {xs : List Int} (h : Small xs) (k : Nat) : Small (xs.take k) := ⟨by have := h.1; simp; omega, fun e he => h.2 e (List.mem_of_mem_take he)⟩
theorem Small.count {xs : List Int} (h : Small xs) : countL xs = prodL xs ∧ 0 ≤ countL xs ∧ countL xs ≤ 12960000 ∧ (0 < countL xs → ∀ e ∈ xs, 1 ≤ e) := by
  have := countL_zero_or h.1 h.2
  exact ⟨this.2.2.2, this.1, this.2.1, this.2.2.1⟩
end Go.Proofs.Ytpgkhjmboiepcaa

/- Walks towards SplitDim: dimensions, ranks. -/
namespace Go.Proofs.Ytpgkhjmboiepcaa
open Go.RowKit
set_option linter.unusedVariables false
set_option maxRecDepth 100000

end Go.Proofs.Ytpgkhjmboiepcaa

/- A copy of a view by the reference. -/
namespace Go.Proofs.Ytpgkhjmboiepcaa
open Go.RowKit
set_option linter.unusedVariables false
set_option maxRecDepth 100000

set_option maxHeartbeats 1000000 in
theorem scopyView_c (base : Int) (sh st : Value) (shape strides : List Int) (w : World) (lo lo' : Nat) (hsh : Ints w lo sh shape) (hst : Ints w lo' st strides) :
    Calls Try.prog 96 #[.agg #[.int .i64 base, sh, st]] w (PView w base shape strides) := by
  have hl1 : shape.length ≤ 4194304 := by obtain ⟨_, _, _, _, _, ⟨h, _⟩, _⟩ := hsh; exact h
  have hl2 : strides.length ≤ 4194304 := by obtain ⟨_, _, _, _, _, ⟨h, _⟩, _⟩ := hst; exact h
  go_enter Try.func96, Try.ntmps96
  go_wp2_with fail
  have c0 : ((w.alloc (.cells #[.int .i64 base, sh, st] 25)).alloc (.cells #[.int .i64 0, .slice none 0 0, .slice none 0 0] 25)).cell? ⟨w.heap.size, 0, none⟩ = some (.int .i64 base) := by rw [World.cell?_alloc_lt _ _ _ (by simp)]; simp
  have c1 : ((w.alloc (.cells #[.int .i64 base, sh, st] 25)).alloc (.cells #[.int .i64 0, .slice none 0 0, .slice none 0 0] 25)).cell? ⟨w.heap.size, 1, none⟩ = some sh := by rw [World.cell?_alloc_lt _ _ _ (by simp)]; simp
  have c2 : ((w.alloc (.cells #[.int .i64 base, sh, st] 25)).alloc (.cells #[.int .i64 0, .slice none 0 0, .slice none 0 0] 25)).cell? ⟨w.heap.size, 2, none⟩ = some st := by rw [World.cell?_alloc_lt _ _ _ (by simp)]; simp
  have r0 : ∀ j : Nat, j < 3 → (∃ u, ((w.alloc (.cells #[.int .i64 base, sh, st] 25)).alloc (.cells #[.int .i64 0, .slice none 0 0, .slice none 0 0] 25)).cell? ⟨w.heap.size + 1, j, none⟩ = some u) ∧ ((w.alloc (.cells #[.int .i64 base, sh, st] 25)).alloc (.cells #[.int .i64 0, .slice none 0 0, .slice none 0 0] 25)).frozen? ⟨w.heap.size + 1, j, none⟩ = false := by
    intro j hj
    have e : w.heap.size + 1 = (w.alloc (.cells #[.int .i64 base, sh, st] 25)).heap.size := by simp
    rw [e]
    refine ⟨?_, by simp⟩
    rw [World.cell?_alloc_new]
    match j, hj with
    | 0, _ => exact ⟨_, rfl⟩
    | 1, _ => exact ⟨_, rfl⟩
    | 2, _ => exact ⟨_, rfl⟩
  have hx0 : Ext w ((w.alloc (.cells #[.int .i64 base, sh, st] 25)).alloc (.cells #[.int .i64 0, .slice none 0 0, .slice none 0 0] 25)) := ((Ext.refl _).alloc _).alloc _
  have hz0 : w.heap.size + 2 ≤ ((w.alloc (.cells #[.int .i64 base, sh, st] 25)).alloc (.cells #[.int .i64 0, .slice none 0 0, .slice none 0 0] 25)).heap.size := by simp
  revert c0 c1 c2 r0 hx0 hz0
  generalize (w.alloc (.cells #[.int .i64 base, sh, st] 25)).alloc (.cells #[.int .i64 0, .slice none 0 0, .slice none 0 0] 25) = w0
  intro c0 c1 c2 r0 hx0 hz0
  obtain ⟨⟨ua, ra⟩, fa⟩ := r0 0 (by omega)
  obtain ⟨⟨ub, rb⟩, fb⟩ := r0 1 (by omega)
  obtain ⟨⟨uc, rc⟩, fc⟩ := r0 2 (by omega)
  clear r0
  have hz1 : w.heap.size + 1 < w0.heap.size := by omega
  have hz2 : w.heap.size < w0.heap.size := by omega
  go_region_held3 (fun w' => w'.cell? ⟨w.heap.size, 0, none⟩ = some (.int .i64 base) ∧ w'.cell? ⟨w.heap.size, 1, none⟩ = some sh ∧ w'.cell? ⟨w.heap.size, 2, none⟩ = some st)
    (first
      | go_keep
      | exact ⟨X1.cell c0, X1.cell c1, X1.cell c2⟩
      | exact ⟨X2.cell c0, X2.cell c1, X2.cell c2⟩)
    (first
      | (go_at_call 42; refine (copyInts_c shape _ _ lo (hsh.ext (hx0.trans qXo))).mono ?_; rintro e w1 ⟨v1, rfl, hi1, ho1, hx1⟩; obtain ⟨p1, q1, s1, rfl⟩ := ho1.form; have X1 : Ext w0 w1 := Ext.trans qXo hx1; have R1 := X1.rule; have F1 := X1.frule)
      | (go_at_call 42; refine (copyInts_c strides _ _ lo' (hst.ext (hx0.trans qXo))).mono ?_; rintro e w2 ⟨v2, rfl, hi2, ho2, hx2⟩; obtain ⟨p2, q2, s2, rfl⟩ := ho2.form; have X2 : Ext w0 w2 := Ext.trans qXo hx2; have R2 := X2.rule; have F2 := X2.frule))
  all_goals
    go_wp2_with fail
    refine bodyPost_ret (v := .agg #[.int .i64 base, .slice p1 q1 s1, .slice p2 q2 s2]) (by simp only [results, Try.results96]; go_simp) rfl ?_
    refine copy_close hx0 X1 (ho1.lower (by simp <;> omega)) (Ext.trans (by repeat (first | exact Ext.refl _ | apply Ext.drew | apply Ext.alloc)) hx2) (ho2.lower (by simp <;> omega)) hz1 hl1 hl2 _ _ _ rfl rfl rfl _ _ _

end Go.Proofs.Ytpgkhjmboiepcaa

/- Walks: a view that the reference hands back, with a bool. -/
namespace Go.Proofs.Ytpgkhjmboiepcaa
open Go.RowKit
set_option linter.unusedVariables false
set_option maxRecDepth 100000

/-- a call hands back a new view and a bool -/
def PViewB (w : World) (base : Int) (shape strides : List Int) (b : Bool) (e : Ending) (w' : World) : Prop :=
  ∃ sh st, e = .returned (.tuple #[.agg #[.int .i64 base, sh, st], .bool b]) ∧ Ints w' w.heap.size sh shape ∧ Ints w' w.heap.size st strides ∧ OwnZ w' w.heap.size sh shape ∧ OwnZ w' w.heap.size st strides ∧
    (shape ≠ [] → strides ≠ [] → sh.ownBlock ≠ st.ownBlock) ∧ Ext w w'
theorem PViewB.no {w w' : World} (h : Ext w w') : PViewB w 0 [] [] false (.returned (.tuple #[.agg #[.int .i64 0, .slice none 0 0, .slice none 0 0], .bool false])) w' :=
  ⟨_, _, rfl, Ints.nil _ _ _ _ (by simp) (fun _ => rfl), Ints.nil _ _ _ _ (by simp) (fun _ => rfl), .inl ⟨rfl, none, 0, rfl, by simp, fun _ => rfl⟩, .inl ⟨rfl, none, 0, rfl, by simp, fun _ => rfl⟩, fun h => absurd rfl h, h⟩

theorem PViewB.put {w w1 w2 : World} {base : Int} {shape strides : List Int} {v1 v2 : Value} {a b c : Addr} {u v x : Value} {g : Nat} (l1 : shape.length ≤ 4194304) (l2 : strides.length ≤ 4194304) (o1 : OwnZ w2 w1.heap.size v1 shape) (o2 : OwnZ w2 w1.heap.size v2 strides)
    (od : shape ≠ [] → strides ≠ [] → v1.ownBlock ≠ v2.ownBlock) (hz : w.heap.size ≤ w1.heap.size ∧ g < w1.heap.size) (ha : a.block = g) (hb : b.block = g) (hc : c.block = g) (hx : Ext w (((w2.setCell a u).setCell b v).setCell c x)) :
    PViewB w base shape strides true (.returned (.tuple #[.agg #[.int .i64 base, v1, v2], .bool true])) (((w2.setCell a u).setCell b v).setCell c x) := by
  have o1' := ((o1.setCell_below (a := a) (by omega) u).setCell_below (a := b) (by omega) v).setCell_below (a := c) (by omega) x
  have o2' := ((o2.setCell_below (a := a) (by omega) u).setCell_below (a := b) (by omega) v).setCell_below (a := c) (by omega) x
  exact ⟨v1, v2, rfl, (o1'.lower hz.1).ints l1, (o2'.lower hz.1).ints l2, o1'.lower hz.1, o2'.lower hz.1, od, hx⟩
theorem ints_len {w : World} {lo : Nat} {v : Value} {xs : List Int} (h : Ints w lo v xs) : xs.length ≤ 4194304 := by obtain ⟨_, _, _, _, _, ⟨h, _⟩, _⟩ := h; exact h

set_option maxHeartbeats 1600000 in
theorem made_0 (b1 : Int) (u1 v1 : Value) (s1 t1 : List Int) (w : World) (l1 m1 : Nat) (h1 : Ints w l1 u1 s1) (k1 : Ints w m1 v1 t1) (ha : viewB b1 s1 t1 = false) :
    Calls Try.prog 59 #[.agg #[.int .i64 b1, u1, v1]] w (PViewB w 0 [] [] false) := by
  go_enter Try.func59, Try.ntmps59
  go_wp2_with fail
  refine (validView_c b1 _ _ s1 t1 _ l1 m1 (h1.ext qXo) (k1.ext qXo)).mono ?_
  rintro e w1 ⟨rfl, xw1⟩
  have Lw1 : Ext w w1 := Ext.trans qXo xw1
  have Xw1 : Ext w w1 := Lw1
  have c10 : w1.cell? ⟨w.heap.size, 0, none⟩ = some (.int .i64 b1) := xw1.cell qCl
  have c11 : w1.cell? ⟨w.heap.size, 1, none⟩ = some (u1) := xw1.cell qCl
  have c12 : w1.cell? ⟨w.heap.size, 2, none⟩ = some (v1) := xw1.cell qCl
  have q0 : w1.cell? ⟨w.heap.size + 1, 0, none⟩ = some (.int .i64 0) := xw1.cell qCl
  have q1 : w1.cell? ⟨w.heap.size + 1, 1, none⟩ = some (.slice none 0 0) := xw1.cell qCl
  have q2 : w1.cell? ⟨w.heap.size + 1, 2, none⟩ = some (.slice none 0 0) := xw1.cell qCl
  have zr : w.heap.size + 1 < w1.heap.size := qB q0
  have p0 : w1.frozen? ⟨w.heap.size + 1, 0, none⟩ = false := xw1.frz (by simp <;> omega) qFz
  have p1 : w1.frozen? ⟨w.heap.size + 1, 1, none⟩ = false := xw1.frz (by simp <;> omega) qFz
  have p2 : w1.frozen? ⟨w.heap.size + 1, 2, none⟩ = false := xw1.frz (by simp <;> omega) qFz
  have z1 : w.heap.size < w1.heap.size := qB c10
  have sw1 : w.heap.size ≤ w1.heap.size := Lw1.size
  rw [ha]
  go_wp2_with fail
  refine bodyPost_ret (v := .tuple #[.agg #[.int .i64 0, .slice none 0 0, .slice none 0 0], .bool false]) (by simp only [results, Try.results59]; go_simp) rfl ?_
  exact PViewB.no (by repeat (first | exact Ext.refl _ | assumption | apply Ext.drewN | apply Ext.drew | apply Ext.alloc | (refine Ext.setCell ?_ (by simp) _)))

set_option maxHeartbeats 1600000 in
theorem made_1 (b1 : Int) (u1 v1 : Value) (s1 t1 : List Int) (w : World) (l1 m1 : Nat) (h1 : Ints w l1 u1 s1) (k1 : Ints w m1 v1 t1) (ha : viewB b1 s1 t1 = true) :
    Calls Try.prog 59 #[.agg #[.int .i64 b1, u1, v1]] w (PViewB w b1 s1 t1 true) := by
  go_enter Try.func59, Try.ntmps59
  go_wp2_with fail
  refine (validView_c b1 _ _ s1 t1 _ l1 m1 (h1.ext qXo) (k1.ext qXo)).mono ?_
  rintro e w1 ⟨rfl, xw1⟩
  have Lw1 : Ext w w1 := Ext.trans qXo xw1
  have Xw1 : Ext w w1 := Lw1
  have c10 : w1.cell? ⟨w.heap.size, 0, none⟩ = some (.int .i64 b1) := xw1.cell qCl
  have c11 : w1.cell? ⟨w.heap.size, 1, none⟩ = some (u1) := xw1.cell qCl
  have c12 : w1.cell? ⟨w.heap.size, 2, none⟩ = some (v1) := xw1.cell qCl
  have q0 : w1.cell? ⟨w.heap.size + 1, 0, none⟩ = some (.int .i64 0) := xw1.cell qCl
  have q1 : w1.cell? ⟨w.heap.size + 1, 1, none⟩ = some (.slice none 0 0) := xw1.cell qCl
  have q2 : w1.cell? ⟨w.heap.size + 1, 2, none⟩ = some (.slice none 0 0) := xw1.cell qCl
  have zr : w.heap.size + 1 < w1.heap.size := qB q0
  have p0 : w1.frozen? ⟨w.heap.size + 1, 0, none⟩ = false := xw1.frz (by simp <;> omega) qFz
  have p1 : w1.frozen? ⟨w.heap.size + 1, 1, none⟩ = false := xw1.frz (by simp <;> omega) qFz
  have p2 : w1.frozen? ⟨w.heap.size + 1, 2, none⟩ = false := xw1.frz (by simp <;> omega) qFz
  have z1 : w.heap.size < w1.heap.size := qB c10
  have sw1 : w.heap.size ≤ w1.heap.size := Lw1.size
  rw [ha]
  have zk := zr
  go_wp2_with fail
  refine (scopyView_c b1 _ _ s1 t1 _ l1 m1 (h1.ext (Xw1.trans qXo)) (k1.ext (Xw1.trans qXo))).mono ?_
  rintro e w2 ⟨x1, x2, rfl, i1, i2, o1, o2, od, xw2⟩
  have hl1 := ints_len i1
  have hl2 := ints_len i2
  obtain ⟨y1, n1, rfl⟩ := i1.form
  obtain ⟨y2, n2, rfl⟩ := i2.form
  have Lw2 : Ext w1 w2 := Ext.trans qXo xw2
  have Xw2 : Ext w w2 := Xw1.trans Lw2
  replace c10 := Lw2.cell c10
  replace c11 := Lw2.cell c11
  replace c12 := Lw2.cell c12
  replace q0 := Lw2.cell q0
  replace p0 := Lw2.frz zr p0
  replace q1 := Lw2.cell q1
  replace p1 := Lw2.frz zr p1
  replace q2 := Lw2.cell q2
  replace p2 := Lw2.frz zr p2
  replace zr := Nat.lt_of_lt_of_le zr Lw2.size
  have z2 : w.heap.size < w2.heap.size := qB c10
  have sw2 : w1.heap.size ≤ w2.heap.size := Lw2.size
  go_wp2_with fail
  refine bodyPost_ret (v := .tuple #[.agg #[.int .i64 b1, .slice y1 s1.length n1, .slice y2 t1.length n2], .bool true]) (by simp only [results, Try.results59]; go_simp) rfl ?_
  exact PViewB.put (g := w.heap.size + 1) hl1 hl2 o1 o2 od (by constructor <;> (try simp) <;> omega) rfl rfl rfl (by repeat (first | exact Ext.refl _ | assumption | apply Ext.drewN | apply Ext.drew | apply Ext.alloc | (refine Ext.setCell ?_ (by simp) _)))

end Go.Proofs.Ytpgkhjmboiepcaa

/- Walks: strides by rows and numbers in order, of the reference; orders of dimensions. -/
namespace Go.Proofs.Ytpgkhjmboiepcaa
open Go.RowKit
set_option linter.unusedVariables false
set_option maxRecDepth 100000

end Go.Proofs.Ytpgkhjmboiepcaa

/- Walks: new views of the reference, tidy views. -/
namespace Go.Proofs.Ytpgkhjmboiepcaa
open Go.RowKit
set_option linter.unusedVariables false
set_option maxRecDepth 100000

theorem PView.no {w w' : World} (h : Ext w w') : PView w 0 [] [] (.returned (.agg #[.int .i64 0, .slice none 0 0, .slice none 0 0])) w' :=
  ⟨_, _, rfl, Ints.nil _ _ _ _ (by simp) (fun _ => rfl), Ints.nil _ _ _ _ (by simp) (fun _ => rfl), .inl ⟨rfl, none, 0, rfl, by simp, fun _ => rfl⟩, .inl ⟨rfl, none, 0, rfl, by simp, fun _ => rfl⟩, fun h => absurd rfl h, h⟩
theorem PView.two {w w' : World} {base : Int} {shape strides : List Int} {v1 v2 : Value} {b1 b2 m : Nat} (o1 : OwnZ w' b1 v1 shape) (o2 : OwnZ w' b2 v2 strides) (h1 : w.heap.size ≤ b1) (h2 : w.heap.size ≤ b2)
    (hd : (shape ≠ [] → ∀ g, v1.ownBlock = some g → g < m) ∧ m ≤ b2 ∨ (strides ≠ [] → ∀ g, v2.ownBlock = some g → g < m) ∧ m ≤ b1) (l1 : shape.length ≤ 4194304) (l2 : strides.length ≤ 4194304) (hx : Ext w w') : PView w base shape strides (.returned (.agg #[.int .i64 base, v1, v2])) w' := by
  refine ⟨v1, v2, rfl, (o1.lower h1).ints l1, (o2.lower h2).ints l2, o1.lower h1, o2.lower h2, fun n1 n2 => ?_, hx⟩
  obtain ⟨g1, e1, t1, _⟩ := o1.lt n1
  obtain ⟨g2, e2, t2, _⟩ := o2.lt n2
  rw [e1, e2]
  rcases hd with ⟨hd, hm⟩ | ⟨hd, hm⟩
  · have := hd n1 g1 e1; simp; omega
  · have := hd n2 g2 e2; simp; omega

theorem Chg.three {lo : Nat} (w : World) (x y z : Value) : Chg lo (lo + 1) w (((w.setCell ⟨lo, 0, none⟩ x).setCell ⟨lo, 1, none⟩ y).setCell ⟨lo, 2, none⟩ z) :=
  (((Chg.refl lo (lo + 1) w).setCell (p := ⟨lo, 0, none⟩) (Nat.le_refl _) (Nat.lt_succ_self _) _).setCell (p := ⟨lo, 1, none⟩) (Nat.le_refl _) (Nat.lt_succ_self _) _).setCell (p := ⟨lo, 2, none⟩) (Nat.le_refl _) (Nat.lt_succ_self _) _

end Go.Proofs.Ytpgkhjmboiepcaa

/- Walks: tidy views, a number put into a list (of the reference). -/
namespace Go.Proofs.Ytpgkhjmboiepcaa
open Go.RowKit
set_option linter.unusedVariables false
set_option maxRecDepth 100000

end Go.Proofs.Ytpgkhjmboiepcaa

/- Plain laws on views: indices in order, the cells of indices, ranks. -/
namespace Go.Proofs.Ytpgkhjmboiepcaa
open Go.RowKit
set_option linter.unusedVariables false
set_option maxRecDepth 100000

/-- the cell of an index, unbounded -/
def dotC (b : Int) : List Int → List Int → Int
  | x :: xs, t :: ts => x * t + dotC b xs ts
  | _, _ => b
theorem dotC_add : ∀ (b c : Int) (xs ts : List Int), dotC (b + c) xs ts = dotC b xs ts + c
  | b, c, [], ts => by cases ts <;> rfl
  | b, c, x :: xs, [] => rfl
  | b, c, x :: xs, t :: ts => by simp only [dotC]; rw [dotC_add b c xs ts]; omega
theorem mul_bd {x t M : Int} (h0 : 0 ≤ x) (h1 : x ≤ 60) (hM : 0 ≤ M) (h2 : -M ≤ t) (h3 : t ≤ M) : -(60 * M) ≤ x * t ∧ x * t ≤ 60 * M := by
  have a1 := Int.mul_le_mul_of_nonneg_left h3 h0
  have a2 := Int.mul_le_mul_of_nonneg_left h2 h0
  have a3 := Int.mul_le_mul_of_nonneg_right h1 hM
  rw [Int.mul_neg] at a2
  omega
theorem dot_eq (xs : List Int) : ∀ (ts : List Int) (a : Int), (∀ x ∈ xs, 0 ≤ x ∧ x ≤ 60) → (∀ t ∈ ts, -1000000 ≤ t ∧ t ≤ 1000000) → -(1000000000 - 60000000 * (xs.length : Int)) ≤ a → a ≤ 1000000000 - 60000000 * (xs.length : Int) →
    (xs.zip ts).foldl (fun a p => wrap64 (a + wrap64 (p.1 * p.2))) a = dotC a xs ts := by
  induction xs with
  | nil => intro ts a _ _ _ _; cases ts <;> rfl
  | cons x xs ih =>
    intro ts a hx ht h1 h2
    cases ts with
    | nil => rfl
    | cons t ts =>
      obtain ⟨x0, x1⟩ := hx x (List.mem_cons_self ..)
      obtain ⟨t0, t1⟩ := ht t (List.mem_cons_self ..)
      have hb := mul_bd x0 x1 (show (0 : Int) ≤ 1000000 by omega) t0 t1
      rw [List.length_cons] at h1 h2
      have hl : ((xs.length + 1 : Nat) : Int) = (xs.length : Int) + 1 := by omega
      rw [hl] at h1 h2
      have h0 : (0 : Int) ≤ (xs.length : Int) := by omega
      generalize (xs.length : Int) = L at *
      have w1 : wrap64 (x * t) = x * t := IntWalk.wrap64_in _ ⟨by omega, by omega⟩
      have w2 : wrap64 (a + x * t) = a + x * t := IntWalk.wrap64_in _ ⟨by omega, by omega⟩
      rw [List.zip_cons_cons, List.foldl_cons]
      simp only [w1, w2]
      rw [ih ts (a + x * t) (fun q hq => hx q (List.mem_cons_of_mem _ hq)) (fun q hq => ht q (List.mem_cons_of_mem _ hq)) (by omega) (by omega), dotC_add, dotC]
      omega
/-- strides and a base that are not great -/
def Mild (b : Int) (ts : List Int) : Prop := (-700000000 ≤ b ∧ b ≤ 700000000) ∧ ∀ t ∈ ts, -1000000 ≤ t ∧ t ≤ 1000000
theorem dotL_eq {b : Int} {xs ts : List Int} (hl : xs.length ≤ 4) (hx : ∀ x ∈ xs, 0 ≤ x ∧ x ≤ 60) (hm : Mild b ts) : dotL b xs ts = dotC b xs ts :=
  dot_eq xs ts b hx hm.2 (by have := hm.1; omega) (by have := hm.1; omega)

theorem unrL_cons (e : Int) (s : List Int) (k : Int) : unrL (e :: s) k = ((unrL s k).2 % e :: (unrL s k).1, (unrL s k).2 / e) := rfl
theorem unr_split : ∀ (s : List Int), (∀ e ∈ s, 1 ≤ e) → ∀ i j : Int, 0 ≤ j → j < prodL s → unrL s (i * prodL s + j) = ((unrL s j).1, i)
  | [], _, i, j, h0, h1 => by
    simp [prodL] at h1
    have : j = 0 := by omega
    subst this
    simp [unrL, prodL]
  | e :: s, hp, i, j, h0, h1 => by
    have he := hp e (List.mem_cons_self ..)
    have hs := fun q hq => hp q (List.mem_cons_of_mem e hq)
    have hP := prodL_pos hs
    rw [prodL_cons] at h1 ⊢
    have d1 := Int.mul_ediv_add_emod j (prodL s)
    have d2 := Int.emod_nonneg j (show prodL s ≠ 0 by omega)
    have d3 := Int.emod_lt_of_pos j (show 0 < prodL s by omega)
    have d4 : 0 ≤ j / prodL s := Int.ediv_nonneg h0 (by omega)
    have d5 : j / prodL s < e := Int.ediv_lt_of_lt_mul (by omega) (by rw [Int.mul_comm] at h1; rwa [Int.mul_comm])
    have k1 : i * (e * prodL s) + j = (i * e + j / prodL s) * prodL s + j % prodL s := by
      rw [Int.add_mul, Int.mul_assoc]
      rw [Int.mul_comm (prodL s)] at d1
      omega
    have k2 : j = (j / prodL s) * prodL s + j % prodL s := by rw [Int.mul_comm]; omega
    rw [unrL_cons, unrL_cons, k1, unr_split s hs _ _ d2 d3]
    have k3 := unr_split s hs (j / prodL s) (j % prodL s) d2 d3
    rw [← k2] at k3
    rw [k3]
    have m1 : (i * e + j / prodL s) % e = j / prodL s := by rw [Int.add_comm, Int.add_mul_emod_self_right, Int.emod_eq_of_lt d4 d5]
    have m2 : (i * e + j / prodL s) / e = i := by rw [Int.add_comm, Int.add_mul_ediv_right _ _ (by omega), Int.ediv_eq_zero_of_lt d4 d5]; omega
    have m3 : (j / prodL s) % e = j / prodL s := Int.emod_eq_of_lt d4 d5
    rw [m1, m2, m3]

/-- is it an index of a shape? -/
def IxOf : List Int → List Int → Prop
  | [], [] => True
  | e :: s, x :: r => (0 ≤ x ∧ x < e) ∧ IxOf s r
  | _, _ => False
theorem IxOf.len : ∀ {s r : List Int}, IxOf s r → r.length = s.length
  | [], [], _ => rfl
  | e :: s, x :: r, h => by simp [IxOf.len h.2]
  | [], x :: r, h => h.elim
  | e :: s, [], h => h.elim
theorem IxOf.pos : ∀ {s r : List Int}, IxOf s r → ∀ e ∈ s, 1 ≤ e
  | [], _, _ => by simp
  | e :: s, x :: r, h => by
    intro q hq
    rcases List.mem_cons.1 hq with rfl | hq
    · have := h.1; omega
    · exact IxOf.pos h.2 q hq
  | e :: s, [], h => h.elim
theorem IxOf.small : ∀ {s r : List Int}, IxOf s r → (∀ e ∈ s, e ≤ 60) → ∀ x ∈ r, 0 ≤ x ∧ x ≤ 60
  | [], [], _, _ => by simp
  | e :: s, x :: r, h, hs => by
    intro q hq
    rcases List.mem_cons.1 hq with rfl | hq
    · have := h.1; have := hs e (List.mem_cons_self ..); omega
    · exact IxOf.small h.2 (fun q hq => hs q (List.mem_cons_of_mem _ hq)) q hq
  | [], x :: r, h, _ => h.elim
  | e :: s, [], h, _ => h.elim
/-- the index of a rank -/
theorem ix_unr : ∀ (s : List Int), (∀ e ∈ s, 1 ≤ e) → ∀ k : Int, IxOf s (unrL s k).1
  | [], _, k => trivial
  | e :: s, hp, k => by
    rw [unrL_cons]
    have he := hp e (List.mem_cons_self ..)
    exact ⟨⟨Int.emod_nonneg _ (by omega), Int.emod_lt_of_pos _ (by omega)⟩, ix_unr s (fun q hq => hp q (List.mem_cons_of_mem _ hq)) k⟩
/-- all indices of a shape, in order -/
def idxR : List Int → List (List Int)
  | [] => [[]]
  | e :: s => (List.range e.toNat).flatMap fun i : Nat => (idxR s).map fun r => (i : Int) :: r
theorem range_mul (n p : Nat) : List.range (n * p) = (List.range n).flatMap fun i => (List.range p).map fun j => i * p + j := by
  induction n with
  | zero => simp
  | succ n ih =>
    rw [Nat.succ_mul, List.range_add, ih, List.range_succ, List.flatMap_append]
    simp
theorem flatMap_same {β : Type} {l : List Nat} {f g : Nat → List β} (h : ∀ i ∈ l, f i = g i) : l.flatMap f = l.flatMap g := by
  induction l with
  | nil => rfl
  | cons i l ih => rw [List.flatMap_cons, List.flatMap_cons, h i (List.mem_cons_self ..), ih fun j hj => h j (List.mem_cons_of_mem _ hj)]
theorem idx_eq : ∀ (s : List Int), (∀ e ∈ s, 1 ≤ e) → (List.range (prodL s).toNat).map (fun k : Nat => (unrL s k).1) = idxR s
  | [], _ => by simp [prodL, idxR, unrL, List.range_succ]
  | e :: s, hp => by
    have hs := fun q hq => hp q (List.mem_cons_of_mem e hq)
    have he := hp e (List.mem_cons_self ..)
    have hP := prodL_pos hs
    have ih := idx_eq s hs
    have hn : (prodL (e :: s)).toNat = e.toNat * (prodL s).toNat := by
      rw [prodL_cons, Int.toNat_mul (by omega) (by omega)]
    rw [hn, range_mul, List.map_flatMap, idxR]
    refine flatMap_same fun i hi => ?_
    rw [List.mem_range] at hi
    rw [← ih, List.map_map, List.map_map]
    refine List.map_congr_left fun j hj => ?_
    rw [List.mem_range] at hj
    simp only [Function.comp]
    have hc : ((i * (prodL s).toNat + j : Nat) : Int) = (i : Int) * prodL s + (j : Int) := by
      rw [Int.natCast_add, Int.natCast_mul, Int.toNat_of_nonneg (by omega)]
    rw [hc, unrL_cons, unr_split s hs _ _ (by omega) (by omega)]
    simp only
    rw [Int.emod_eq_of_lt (by omega) (by omega)]
theorem mem_idxR : ∀ (s r : List Int), r ∈ idxR s ↔ IxOf s r
  | [], r => by cases r <;> simp [idxR, IxOf]
  | e :: s, [] => by simp [idxR, IxOf]
  | e :: s, x :: r => by
    simp only [idxR, List.mem_flatMap, List.mem_range, List.mem_map, List.cons.injEq, IxOf]
    constructor
    · rintro ⟨i, hi, r', hr, rfl, rfl⟩
      exact ⟨by omega, (mem_idxR s r').1 hr⟩
    · rintro ⟨h1, h2⟩
      exact ⟨x.toNat, by omega, r, (mem_idxR s r).2 h2, by omega, rfl⟩
end Go.Proofs.Ytpgkhjmboiepcaa

/- Plain laws on views: the cells of all indices, views that are drawn out of views. -/
namespace Go.Proofs.Ytpgkhjmboiepcaa
open Go.RowKit
set_option linter.unusedVariables false
set_option maxRecDepth 100000

/-- the cells of all indices, unbounded -/
def offC (b : Int) (s t : List Int) : List Int := (idxR s).map fun r => dotC b r t

theorem idxR_none {s : List Int} (h : ¬ ∀ e ∈ s, 1 ≤ e) : idxR s = [] := by
  rw [List.eq_nil_iff_forall_not_mem]
  intro r hr
  exact h ((mem_idxR s r).1 hr).pos
theorem offs_C {b : Int} {s t : List Int} (hs : Small s) (hm : Mild b t) : offsL b s t = offC b s t := by
  obtain ⟨h1, h2, h3, h4⟩ := hs.count
  unfold offC
  by_cases hp : ∀ e ∈ s, 1 ≤ e
  · rw [← idx_eq s hp]
    unfold offsL
    rw [h1, List.map_map]
    refine List.map_congr_left fun k hk => ?_
    have hi := ix_unr s hp k
    exact dotL_eq (by rw [unrL_len]; exact hs.1) (hi.small fun e he => (hs.2 e he).2) hm
  · rw [idxR_none hp]
    refine offsL_zero ?_
    apply Classical.byContradiction
    intro hn
    exact hp (h4 (by omega))
theorem view_small {b : Int} {s t : List Int} (h : viewB b s t = true) : Small s := Small.of (viewB_in h).1
theorem view_mild {b : Int} {s t : List Int} (h : viewB b s t = true) : Mild b t := by
  obtain ⟨_, _, h1, h2, _⟩ := viewB_in h
  exact ⟨by omega, fun x hx => by have := h2 x hx; omega⟩
theorem view_C {b : Int} {s t : List Int} (h : viewB b s t = true) : offsL b s t = offC b s t := offs_C (view_small h) (view_mild h)

theorem offC_nil (b : Int) : offC b [] [] = [b] := rfl
theorem offC_cons (b e : Int) (s : List Int) (x : Int) (t : List Int) : offC b (e :: s) (x :: t) = (List.range e.toNat).flatMap fun i : Nat => (offC b s t).map (· + (i : Int) * x) := by
  unfold offC
  rw [idxR, List.map_flatMap]
  refine flatMap_same fun i _ => ?_
  rw [List.map_map, List.map_map]
  refine List.map_congr_left fun r _ => ?_
  simp only [Function.comp, dotC]; omega
def maxL (l : List Int) : Int := l.foldl max (l.getD 0 0)
end Go.Proofs.Ytpgkhjmboiepcaa

/- Plain laws on views: the cell at a rank, indices one step apart. -/
namespace Go.Proofs.Ytpgkhjmboiepcaa
open Go.RowKit
set_option linter.unusedVariables false
set_option maxRecDepth 100000

end Go.Proofs.Ytpgkhjmboiepcaa

/- Plain laws on views: dimensions as pairs, in any order; what makes a view one, by its least and greatest cell. -/
namespace Go.Proofs.Ytpgkhjmboiepcaa
open Go.RowKit
set_option linter.unusedVariables false
set_option maxRecDepth 100000

end Go.Proofs.Ytpgkhjmboiepcaa

/- Walks: MeetRanges of the program and of the reference. -/
namespace Go.Proofs.Ytpgkhjmboiepcaa
open Go.RowKit
set_option linter.unusedVariables false
set_option maxRecDepth 100000

end Go.Proofs.Ytpgkhjmboiepcaa

/- Walks: what is asked of ranges: lengths, numbers, places, covers. -/
namespace Go.Proofs.Ytpgkhjmboiepcaa
open Go.RowKit
set_option linter.unusedVariables false
set_option maxRecDepth 100000

end Go.Proofs.Ytpgkhjmboiepcaa

/- Walks: slices of the reference: valid ones, ends, indices, and what a slice takes of a range. -/
namespace Go.Proofs.Ytpgkhjmboiepcaa
open Go.RowKit
set_option linter.unusedVariables false
set_option maxRecDepth 100000

end Go.Proofs.Ytpgkhjmboiepcaa

/- Plain laws: numbers in a row and their normal range; a view of some indices of a dimension. -/
namespace Go.Proofs.Ytpgkhjmboiepcaa
open Go.RowKit
set_option linter.unusedVariables false
set_option maxRecDepth 100000

theorem getD_mem {s : List Int} {d : Nat} (hd : d < s.length) : s.getD d 0 ∈ s := by
  have : s.getD d 0 = s[d] := by simp [hd]
  rw [this]; exact List.getElem_mem hd

/-- where an element lies -/
theorem Ints.at {w : World} {lo : Nat} {a : Option Addr} {n c : Nat} {xs : List Int} (h : Ints w lo (.slice a n c) xs) (i : Nat) (hi : i < xs.length) : ∃ b off, a = some ⟨b, off, none⟩ ∧ w.cell? ⟨b, off + i, none⟩ = some (.int .i64 (xs.getD i 0)) := by
  obtain ⟨a', cap, hv, h1, h2, h3, h4⟩ := h
  cases hv
  obtain ⟨b, off, ha, hb, hc, hf⟩ := h4 i hi
  exact ⟨b, off, ha, hc⟩

end Go.Proofs.Ytpgkhjmboiepcaa

/- A region that draws its order, shown once for every order: each operation is shown at whatever world may stand when it comes up, from what those told that it waits for; what each tells must last. No condition. -/
namespace Go.Proofs.Ytpgkhjmboiepcaa.RG
open Go
set_option linter.unusedVariables false
section
variable {P : Program} {ops : Array Oper} {md : Region.Mode}

def dst (ops : Array Oper) (i : Nat) : Option Tmp := (ops[i]?).bind (·.dst)
/-- facts told one by one -/
def Alls (F : Nat → Prop) : Nat → Nat → Prop
  | _, 0 => True
  | k, m+1 => F k ∧ Alls F (k+1) m
theorem Alls.mk {F : Nat → Prop} : ∀ (m k : Nat), (∀ i, i < m → F (k + i)) → Alls F k m
  | 0, k, _ => trivial
  | m+1, k, h => ⟨h 0 (by omega), Alls.mk m (k+1) fun i hi => by have := h (i+1) (by omega); rwa [show k + (i + 1) = k + 1 + i by omega] at this⟩

end
end Go.Proofs.Ytpgkhjmboiepcaa.RG

/- Walks: the reader of the drawn arguments: its numbers. -/
namespace Go.Proofs.Ytpgkhjmboiepcaa
open Go.RowKit
set_option linter.unusedVariables false
set_option maxRecDepth 100000

/-- a slice of a few bytes, in blocks below hi -/
def Bys (w : World) (hi : Nat) (a : Option Addr) (n cap : Nat) : Prop :=
 n ≤ cap ∧ cap ≤ maxLen ∧ n ≤ 2000 ∧ ∀ i, i < n → ∃ b off x, a = some ⟨b, off, none⟩ ∧ b < hi ∧ w.cell? ⟨b, off + i, none⟩ = some (.int .u8 x) ∧ 0 ≤ x ∧ x < 256
/-- the reader at block rb, of which at most k numbers were asked -/
structure Rd (w : World) (rb k : Nat) : Prop where
 ex : ∃ a n cap p, (0 ≤ p ∧ p ≤ (k : Int)) ∧ w.cell? ⟨rb, 0, none⟩ = some (.slice a n cap) ∧ w.cell? ⟨rb, 1, none⟩ = some (.int .i64 p) ∧ w.frozen? ⟨rb, 1, none⟩ = false ∧ Bys w rb a n cap
theorem Bys.chg {w w' : World} {hi lo h2 : Nat} {a : Option Addr} {n cap : Nat} (h : Bys w hi a n cap) (k : Chg lo h2 w w') (hl : hi ≤ lo) : Bys w' hi a n cap := by
 obtain ⟨h1, h2, h3, h4⟩ := h
 refine ⟨h1, h2, h3, fun i hi => ?_⟩
 obtain ⟨b, off, x, ha, hb, hc, hx⟩ := h4 i hi
 exact ⟨b, off, x, ha, hb, k.cell (.inl (by omega)) hc, hx⟩
theorem Rd.ext {w w' : World} {rb k : Nat} (h : Rd w rb k) (hx : Ext w w') : Rd w' rb k := by
 obtain ⟨a, n, cap, p, hp, h0, h1, h2, hb⟩ := h.ex
 refine ⟨a, n, cap, p, hp, hx.cell h0, hx.cell h1, (hx.frule rb 1 (qB h1)).trans h2, ?_⟩
 obtain ⟨g1, g2, g3, g4⟩ := hb
 refine ⟨g1, g2, g3, fun i hi => ?_⟩
 obtain ⟨b, off, x, ha, hbb, hc, hxx⟩ := g4 i hi
 exact ⟨b, off, x, ha, hbb, hx.cell hc, hxx⟩
theorem Rd.mono {w : World} {rb k k' : Nat} (h : Rd w rb k) (hk : k ≤ k') : Rd w rb k' := by
 obtain ⟨a, n, cap, p, hp, r⟩ := h.ex
 exact ⟨a, n, cap, p, by omega, r⟩
theorem Rd.lt {w : World} {rb k : Nat} (h : Rd w rb k) : rb < w.heap.size := by
 obtain ⟨a, n, cap, p, hp, h0, _⟩ := h.ex
 exact qB h0
/-- cells of other blocks than the reader's -/
theorem Rd.chgO {w w' : World} {rb k lo hi : Nat} (h : Rd w rb k) (c : Chg lo hi w w') (hl : rb < lo) : Rd w' rb k := by
 obtain ⟨a, n, cap, p, hp, h0, h1, h2, hb⟩ := h.ex
 refine ⟨a, n, cap, p, hp, c.cell (.inl hl) h0, c.cell (.inl hl) h1, ?_, hb.chg c (by omega)⟩
 exact (World.frozen?_of_block (a := ⟨rb, 1, none⟩) (c.block rb (qB h1) (.inl hl))).trans h2

/-- a number comes back -/
def PNum (rb k : Nat) (p : Int → Prop) (w : World) (e : Ending) (w' : World) : Prop := ∃ x, e = .returned (.int .i64 x) ∧ p x ∧ Rd w' rb k ∧ Chg rb (rb + 1) w w'

theorem rd_put {w : World} {rb k : Nat} {a : Option Addr} {n cap : Nat} {p : Int} (hp : 0 ≤ p ∧ p ≤ (k : Int)) (h0 : w.cell? ⟨rb, 0, none⟩ = some (.slice a n cap)) (h1 : w.cell? ⟨rb, 1, none⟩ = some (.int .i64 p)) (h2 : w.frozen? ⟨rb, 1, none⟩ = false) (hb : Bys w rb a n cap) :
  Rd (w.setCell ⟨rb, 1, none⟩ (.int .i64 (p + 1))) rb (k + 1) ∧ Chg rb (rb + 1) w (w.setCell ⟨rb, 1, none⟩ (.int .i64 (p + 1))) := by
 have hc : Chg rb (rb + 1) w (w.setCell ⟨rb, 1, none⟩ (.int .i64 (p + 1))) := (Chg.refl _ _ _).setCell (p := ⟨rb, 1, none⟩) (Nat.le_refl rb) (Nat.lt_succ_self rb) _
 refine ⟨⟨a, n, cap, p + 1, by omega, ?_, ?_, ?_, hb.chg hc (Nat.le_refl _)⟩, hc⟩
 ·
  refine (World.cell?_setCell_other _ _ _ _ ?_).trans h0
  simp
 ·
  exact World.cell?_setCell_same _ _ _ h1
 ·
  simpa using h2

theorem xor_bd (a b : Nat) (ha : a < 4611686018427387904) (hb : b < 4611686018427387904) : 0 ≤ bits .xor .i64 (a : Int) (b : Int) := by
 have h := Nat.xor_lt_two_pow (n := 62) (x := a) (y := b) (by omega) (by omega)
 have h1 : (BitVec.ofInt 64 (a : Int)).toNat = a := by
  rw [BitVec.ofInt_natCast, BitVec.toNat_ofNat]; exact Nat.mod_eq_of_lt (by omega)
 have h2 : (BitVec.ofInt 64 (b : Int)).toNat = b := by
  rw [BitVec.ofInt_natCast, BitVec.toNat_ofNat]; exact Nat.mod_eq_of_lt (by omega)
 show 0 ≤ IntKind.i64.wrap ((BitVec.ofInt 64 (a : Int) ^^^ BitVec.ofInt 64 (b : Int)).toNat : Int)
 rw [BitVec.toNat_xor, h1, h2, IntWalk.i64_in _ (by omega)]
 omega
theorem xor_num (x : Int) (h : 0 ≤ x) (h2 : x < 4611686018427387904) : 0 ≤ bits .xor .i64 x (x / 64) := by
 obtain ⟨n, rfl⟩ : ∃ n : Nat, x = n := ⟨x.toNat, by omega⟩
 have := xor_bd n (n / 64) (by omega) (by omega)
 simpa using this
theorem xor_mod (x n : Int) (h : 0 ≤ x) (h2 : x < 4611686018427387904) (hn : 1 ≤ n) : 0 ≤ (bits .xor .i64 x (x / 64)).tmod n ∧ (bits .xor .i64 x (x / 64)).tmod n < n := by
 have h1 := xor_num x h h2
 rw [Int.tmod_eq_emod_of_nonneg h1]
 exact ⟨Int.emod_nonneg _ (by omega), Int.emod_lt_of_pos _ (by omega)⟩

set_option maxHeartbeats 1600000 in
theorem pick_c (n : Int) (rb k : Nat) (w : World) (hr : Rd w rb k) (hk : k ≤ 1000000) :
  Calls Try.prog 52 #[.pointer (some ⟨rb, 0, none⟩), .int .i64 n] w (PNum rb (k + 1) (fun x => 0 ≤ x ∧ (x < n ∨ x = 0)) w) := by
 obtain ⟨a, m, cap, p, hp, h0, h1, h2, hb⟩ := hr.ex
 obtain ⟨hR, hC⟩ := rd_put hp h0 h1 h2 hb
 replace hR := Lib.hid hR
 replace hC := Lib.hid hC
 obtain ⟨b1, b2, b3, b4⟩ := hb
 obtain ⟨hp0, hp1⟩ := hp
 unfold maxLen at b2
 by_cases hn : n < 1
 ·
  go_enter Try.func52, Try.ntmps52
  go_wp2_with fail
  go_ret
  exact ⟨0, rfl, ⟨by omega, .inr rfl⟩, hR.out, hC.out⟩
 ·
  by_cases hm : m = 0
  ·
   subst hm
   go_enter Try.func52, Try.ntmps52
   go_wp2_with fail
   go_ret
   exact ⟨0, rfl, ⟨by omega, .inr rfl⟩, hR.out, hC.out⟩
  ·
   have hm0 : ((m : Int) == 0) = false := by simpa using hm
   obtain ⟨q, hq⟩ : ∃ q : Nat, p = q := ⟨p.toNat, by omega⟩
   subst hq
   by_cases hlt : q < m
   ·
    obtain ⟨b, off, x, rfl, hbl, hcell, hx0, hx1⟩ := b4 q hlt
    have hne : b ≠ rb := by omega
    have hne2 : rb ≠ b := by omega
    have hI : (q : Int) < m := by omega
    have g1 := Int.emod_nonneg x (show n ≠ 0 by omega)
    have g2 := Int.emod_lt_of_pos x (show 0 < n by omega)
    go_enter Try.func52, Try.ntmps52
    go_wp2_with fail
    go_ret
    exact ⟨x % n, rfl, ⟨g1, .inl g2⟩, hR.out, hC.out⟩
   ·
    have m0 : 0 < m := by omega
    have r1 := Nat.mod_lt q m0
    have r2 := Nat.mod_lt (q * 7 + 3) m0
    have r3 := Nat.div_le_self q m
    have e1 : ((q : Int)) % (m : Int) = ((q % m : Nat) : Int) := rfl
    have e2 : ((q : Int) * 7 + 3) % (m : Int) = (((q * 7 + 3) % m : Nat) : Int) := by simp
    have e3 : ((q : Int)) / (m : Int) = ((q / m : Nat) : Int) := rfl
    have t1 : ((q : Int)).tmod (m : Int) = ((q % m : Nat) : Int) := rfl
    have t2 : ((q : Int) * 7 + 3).tmod (m : Int) = (((q * 7 + 3) % m : Nat) : Int) := by rw [Int.tmod_eq_emod_of_nonneg (by omega)]; exact e2
    have t3 : ((q : Int)).tdiv (m : Int) = ((q / m : Nat) : Int) := rfl
    generalize q % m = i1 at *
    generalize (q * 7 + 3) % m = i2 at *
    generalize q / m = i3 at *
    obtain ⟨b, off, x, rfl, hbl, hcell, hx0, hx1⟩ := b4 i1 r1
    obtain ⟨_, _, y, he, hbl', hcell', hy0, hy1⟩ := b4 i2 r2
    cases he
    have hne : b ≠ rb := by omega
    have hne2 : rb ≠ b := by omega
    have hI : ¬ (q : Int) < m := by omega
    have hI1 : (i1 : Int) < m := by omega
    have hI2 : (i2 : Int) < m := by omega
    clear hI b4
    go_enter Try.func52, Try.ntmps52
    go_wp2_with fail
    go_quiet (fail)
    go_wp2_with fail
    go_ret
    have hf := xor_mod (x * 131 + y * 1117 + (q : Int) * 29 + (i3 : Int) * 53) n (by omega) (by omega) (by omega)
    exact ⟨_, rfl, ⟨hf.1, .inl hf.2⟩, hR.out.ext qXo, hC.out.ext qXo⟩

/-- one of the numbers of a list -/
theorem one_c (xs : List Int) (v : Value) (lo rb k : Nat) (w : World) (hr : Rd w rb k) (hk : k ≤ 1000000) (hv : Ints w lo v xs) (hlo : rb < lo) (hn : xs ≠ []) :
  Calls Try.prog 51 #[.pointer (some ⟨rb, 0, none⟩), v] w (PNum rb (k + 1) (fun x => x ∈ xs) w) := by
 obtain ⟨a, c, rfl⟩ := hv.form
 have hpos : 0 < xs.length := List.length_pos_iff.2 hn
 go_enter Try.func51, Try.ntmps51
 go_wp2_with fail
 refine (pick_c _ rb k _ hr hk).mono ?_
 rintro e w' ⟨x, rfl, ⟨hx0, hx1⟩, hR, hC⟩
 obtain ⟨j, rfl⟩ : ∃ j : Nat, x = j := ⟨x.toNat, by omega⟩
 have hj : j < xs.length := by omega
 obtain ⟨_, _, hv', _, _, _, hc⟩ := hv.chg hC hlo
 cases hv'
 obtain ⟨b, off, rfl, _, hcell, _⟩ := hc j hj
 have g : xs.getD j 0 = xs[j] := by simp [hj]
 rw [g] at hcell
 have hm : xs[j] ∈ xs := List.getElem_mem hj
 clear hc g hx1
 replace hR := Lib.hid hR
 replace hC := Lib.hid hC
 go_wp2_with fail
 go_ret
 exact ⟨_, rfl, hm, hR.out, hC.out⟩


theorem Ints.lit (w : World) (xs : List Int) (cs : Array Value) (n : Nat) (h : cs.toList = xs.map (Value.int .i64)) (hn : n = xs.length) (hs : xs.length ≤ 100) : Ints (w.alloc (.cells cs 3)) w.heap.size (.slice (some ⟨w.heap.size, 0, none⟩) n n) xs := by
 subst hn
 have hsz : cs.size = xs.length := by rw [← Array.length_toList, h, List.length_map]
 have := World.ownsRow_lit (base := w.heap.size) (e := 3) (size := 1) w cs xs.length (Nat.le_refl _) (by unfold maxLen; omega) (by omega)
 rw [h] at this
 exact Ints.of_own this (by omega)

/-- the bytes that the law was called with -/
def BysIn (w : World) (a : Option Addr) (n cap : Nat) : Prop :=
 n ≤ cap ∧ cap ≤ maxLen ∧ ∀ i, i < n → ∃ b off x, a = some ⟨b, off, none⟩ ∧ w.cell? ⟨b, off + i, none⟩ = some (.int .u8 x) ∧ 0 ≤ x ∧ x < 256
theorem BysIn.bys {w : World} {a : Option Addr} {n cap m : Nat} (h : BysIn w a n cap) (hm : m ≤ n) (h2 : m ≤ 2000) : Bys w w.heap.size a m cap := by
 obtain ⟨h3, h4, h5⟩ := h
 refine ⟨by omega, h4, h2, fun i hi => ?_⟩
 obtain ⟨b, off, x, ha, hc, hx⟩ := h5 i (by omega)
 exact ⟨b, off, x, ha, qB hc, hc, hx⟩

set_option maxHeartbeats 1600000 in
theorem newReader_c (a : Option Addr) (n cap : Nat) (w : World) (hb : BysIn w a n cap) :
  Calls Try.prog 38 #[.slice a n cap] w (fun e w' => e = .returned (.pointer (some ⟨w.heap.size, 0, none⟩)) ∧ Rd w' w.heap.size 0 ∧ Ext w w') := by
 have hb0 := hb
 obtain ⟨h1, h2, _⟩ := hb
 by_cases h : n ≤ 2000
 ·
  have hB := Lib.hid (hb0.bys (Nat.le_refl _) h)
  have hI : ¬ (2000 : Int) < n := by omega
  go_enter Try.func38, Try.ntmps38
  go_wp2_with fail
  go_ret
  refine ⟨rfl, ⟨a, n, cap, 0, by omega, by simp, by simp, by simp, ?_⟩, qXo⟩
  obtain ⟨g1, g2, g3, g4⟩ := hB.out
  refine ⟨g1, g2, g3, fun i hi => ?_⟩
  obtain ⟨b, off, x, ha, hbb, hc, hx⟩ := g4 i hi
  exact ⟨b, off, x, ha, hbb, ((Ext.refl w).alloc _).cell hc, hx⟩
 ·
  have hB := Lib.hid (hb0.bys (m := 2000) (by omega) (Nat.le_refl _))
  have hI : (2000 : Int) < n := by omega
  have hc1 : (2000 : Int) ≤ cap := by omega
  go_enter Try.func38, Try.ntmps38
  go_wp2_with fail
  go_ret
  refine ⟨rfl, ⟨a, 2000, cap, 0, by omega, by simp, by simp, by simp, ?_⟩, qXo⟩
  obtain ⟨g1, g2, g3, g4⟩ := hB.out
  refine ⟨g1, g2, g3, fun i hi => ?_⟩
  obtain ⟨b, off, x, ha, hbb, hc, hx⟩ := g4 i hi
  exact ⟨b, off, x, ha, hbb, ((Ext.refl w).alloc _).cell hc, hx⟩

theorem Rd.alloc {w : World} {rb k : Nat} (h : Rd w rb k) (o : Obj) : Rd (w.alloc o) rb k := h.ext ((Ext.refl _).alloc _)
theorem Rd.drew {w : World} {rb k : Nat} (h : Rd w rb k) : Rd w.drew rb k := h.ext ((Ext.refl _).drew)
theorem Rd.drewN {w : World} {rb k : Nat} (h : Rd w rb k) (n : Nat) : Rd (w.drewN n) rb k := h.ext ((Ext.refl _).drewN n)
theorem Rd.set {w : World} {rb k : Nat} {a : Addr} (h : Rd w rb k) (ha : rb < a.block) (u : Value) : Rd (w.setCell a u) rb k :=
 h.chgO ((Chg.refl a.block (a.block + 1) w).setCell (p := a) (Nat.le_refl _) (Nat.lt_succ_self _) u) ha
theorem Rd.set2 {w : World} {rb k : Nat} {a : Addr} {u : Value} (ha : rb < a.block) (h : Rd w rb k) : Rd (w.setCell a u) rb k := h.set ha u
/-- what was there before, but the reader, is as it was -/
def Rch (rb : Nat) (w w' : World) : Prop := Chg rb (rb + 1) w w'
theorem Rch.refl (rb : Nat) (w : World) : Rch rb w w := Chg.refl _ _ _
theorem Rch.step {rb : Nat} {w a b : World} (h : Rch rb w a) (k : Chg rb (rb + 1) a b) : Rch rb w b := Chg.trans h k
theorem Rch.alloc {rb : Nat} {w w' : World} (h : Rch rb w w') (o : Obj) : Rch rb w (w'.alloc o) := Chg.ext h ((Ext.refl _).alloc _)
theorem Rch.drew {rb : Nat} {w w' : World} (h : Rch rb w w') : Rch rb w w'.drew := Chg.ext h ((Ext.refl _).drew)
theorem Rch.drewN {rb : Nat} {w w' : World} (h : Rch rb w w') (n : Nat) : Rch rb w (w'.drewN n) := Chg.ext h ((Ext.refl _).drewN n)
theorem Rch.ext {rb : Nat} {w w' w'' : World} (h : Rch rb w w') (k : Ext w' w'') : Rch rb w w'' := Chg.ext h k
theorem Rch.set {rb : Nat} {w w' : World} (h : Rch rb w w') {a : Addr} (ha : w.heap.size ≤ a.block) (u : Value) : Rch rb w (w'.setCell a u) :=
 ⟨h.os, h.tape, h.output, by simpa using h.size, fun k hk hd => (Below.heap_setCell _ _ _ _ (by omega)).trans (h.block k hk hd)⟩
theorem Rch.size {rb : Nat} {w w' : World} (h : Rch rb w w') : w.heap.size ≤ w'.heap.size := Chg.size h
theorem Rch.rule {rb : Nat} {w w' : World} (h : Chg rb (rb + 1) w w') : ∀ b o, rb < b → b < w.heap.size → w'.cell? ⟨b, o, none⟩ = w.cell? ⟨b, o, none⟩ := fun b o h1 h2 => World.cell?_of_block (a := ⟨b, o, none⟩) (h.block b h2 (.inr h1))
theorem Rch.frule {rb : Nat} {w w' : World} (h : Chg rb (rb + 1) w w') : ∀ b o, rb < b → b < w.heap.size → w'.frozen? ⟨b, o, none⟩ = w.frozen? ⟨b, o, none⟩ := fun b o h1 h2 => World.frozen?_of_block (a := ⟨b, o, none⟩) (h.block b h2 (.inr h1))

/-- the ints of a literal -/
def litL (cs : Array Value) : List Int := cs.toList.filterMap fun | .int .i64 x => some x | _ => none
def litB (cs : Array Value) : Bool := cs.toList.all fun | .int .i64 _ => true | _ => false
theorem litL_map {l : List Value} (h : (l.all fun | .int .i64 _ => true | _ => false) = true) : l = (l.filterMap fun | .int .i64 x => some x | _ => none).map (Value.int .i64) := by
 induction l with
 | nil => rfl
 | cons c l ih =>
  rw [List.all_cons, Bool.and_eq_true] at h
  have h2 := ih h.2
  have h1 := h.1
  split at h1
  ·
   rw [List.filterMap_cons, List.map_cons, ← h2]
  ·
   cases h1
theorem Ints.litB {w : World} {cs : Array Value} {n b : Nat} (h : litB cs = true) (hn : n = cs.size) (hs : cs.size ≤ 100) (hb : b = w.heap.size) : Ints (w.alloc (.cells cs 3)) w.heap.size (.slice (some ⟨b, 0, none⟩) n n) (litL cs) := by
 subst hb
 have e := litL_map h
 have hl : (litL cs).length = cs.size := by
  have := congrArg List.length e
  rw [List.length_map] at this
  rw [litL, ← this]; simp
 exact Ints.lit w (litL cs) cs n e (by omega) (by omega)

theorem oneLit_c (cs : Array Value) (n b rb k : Nat) (w : World) (hr : Rd w rb k) (hk : k ≤ 1000000) (h : litB cs = true) (hn : n = cs.size) (hs : 0 < cs.size ∧ cs.size ≤ 100) (hb : b = w.heap.size) :
  Calls Try.prog 51 #[.pointer (some ⟨rb, 0, none⟩), .slice (some ⟨b, 0, none⟩) n n] (w.alloc (.cells cs 3)) (PNum rb (k + 1) (fun x => x ∈ litL cs) (w.alloc (.cells cs 3))) := by
 have hi := Ints.litB (w := w) h hn hs.2 hb
 refine one_c (litL cs) _ w.heap.size rb k _ (hr.alloc _) hk hi hr.lt fun h0 => ?_
 have e := litL_map h
 have : cs.toList.length = 0 := by rw [e]; unfold litL at h0; rw [h0]; rfl
 simp at this
 have := hs.1
 simp_all

theorem pick1_c (n : Int) (rb k : Nat) (w : World) (hr : Rd w rb k) (hk : k ≤ 1000000) (hn : 1 ≤ n) :
  Calls Try.prog 52 #[.pointer (some ⟨rb, 0, none⟩), .int .i64 n] w (PNum rb (k + 1) (fun x => 0 ≤ x ∧ x < n) w) :=
 (pick_c n rb k w hr hk).mono fun _ _ ⟨x, h1, ⟨h2, h3⟩, h4⟩ => ⟨x, h1, ⟨h2, by omega⟩, h4⟩

/-- three numbers at a block -/
def RgAt (w : World) (g : Nat) : Prop := ∃ x y z : Int, w.cell? ⟨g, 0, none⟩ = some (.int .i64 x) ∧ w.cell? ⟨g, 1, none⟩ = some (.int .i64 y) ∧ w.cell? ⟨g, 2, none⟩ = some (.int .i64 z) ∧ w.frozen? ⟨g, 0, none⟩ = false ∧ w.frozen? ⟨g, 1, none⟩ = false ∧ w.frozen? ⟨g, 2, none⟩ = false
theorem RgAt.lt {w : World} {g : Nat} (h : RgAt w g) : g < w.heap.size := by obtain ⟨x, y, z, h, _⟩ := h; exact qB h

theorem BysIn.ext {w w' : World} {a : Option Addr} {n cap : Nat} (h : BysIn w a n cap) (hx : Ext w w') : BysIn w' a n cap := by
 obtain ⟨h1, h2, h3⟩ := h
 refine ⟨h1, h2, fun i hi => ?_⟩
 obtain ⟨b, off, x, ha, hc, hx2⟩ := h3 i hi
 exact ⟨b, off, x, ha, hx.cell hc, hx2⟩

theorem Rch.toExt' {rb : Nat} {w0 w w' : World} (h : Chg rb (rb + 1) w w') (hb : w0.heap.size ≤ rb) (hx : Ext w0 w) : Ext w0 w' := hx.chg h hb

theorem qRt {p : Prop} (h : p := by repeat (first | (with_reducible assumption) | (with_reducible exact Rch.refl _ _) | (with_reducible apply Rch.drewN) | (with_reducible apply Rch.drew) | (with_reducible apply Rch.alloc) | (with_reducible refine Rch.set ?_ qSo _))) : p := h
end Go.Proofs.Ytpgkhjmboiepcaa

/- A region that draws its order, some reads taken first under a condition on the world, which need not last behind the operations that wait for all those reads (a store to a cell that is read). No condition. -/
namespace Go.Proofs.Ytpgkhjmboiepcaa
open Go
set_option linter.unusedVariables false
section
variable {P : Program} {ops : Array Oper} {Q : Exit → Act → World → Prop} {md : Region.Mode} {S : World → Prop} {tl : Nat → Bool}

/-- whatever order is picked; the condition holds behind each operation but those of tl -/
def wpTail (P : Program) (md : Region.Mode) (ops : Array Oper) (Q : Exit → Act → World → Prop) (S : World → Prop) (tl : Nat → Bool) : Nat → Array Bool → Act → World → Prop
  | 0, listed, a, w => Region.ready md ops listed = [] ∧ Q .normal a w
  | n + 1, listed, a, w =>
    (Region.ready md ops listed = [] → Q .normal a w) ∧
    ∀ i ∈ Region.ready md ops listed, wpOp P ops Q i (fun a' w' => (tl i = false → S w') ∧ wpTail P md ops Q S tl n (listed.setIfInBounds i true) a' w') a w

theorem wpTail.any : ∀ (n : Nat) (listed : Array Bool) (a : Act) (w : World), wpTail P md ops Q S tl n listed a w → wpAny P md ops Q n listed a w
  | 0, _, _, _, h => h
  | n + 1, _, _, _, h => ⟨h.1, fun i hi => wpOp_mono (fun a' w' h' => wpTail.any n _ a' w' h'.2) (h.2 i hi)⟩

/-- what waits for i -/
def waitsB (md : Region.Mode) (ops : Array Oper) (tl : Nat → Bool) (i : Nat) : Bool :=
  (List.range ops.size).all fun j => !tl j || (match ops[j]? with | some o => o.after.toList.any fun e => Region.binds md e && e.on == i | none => true)

theorem wpTail.first {i : Nat} {oi : Oper} {v : Value} (hi : ops[i]? = some oi) (hsel : ∀ (j : Nat) (o : Oper) cs b, ops[j]? = some o → o.op ≠ .select cs b)
    (hQ : ∀ c a w, Q (.panic c) (a.put oi.dst v) w → Q (.panic c) a w) (hti : tl i = false) (hwt : waitsB md ops tl i = true) :
    ∀ (n : Nat) (listed : Array Bool) (a : Act) (w : World),
      (∀ j oj, ops[j]? = some oj → j ≠ i → listed.getD j true = false → (∀ e ∈ oj.after, Region.binds md e = true → e.on ≠ i) → oi.apart ops oj = true) →
      i ∈ Region.ready md ops listed → YieldsIf P ops S oi v a → S w →
      wpTail P md ops Q S tl n (listed.setIfInBounds i true) (a.put oi.dst v) w → wpTail P md ops Q S tl (n + 1) listed a w := by
  intro n
  induction n with
  | zero =>
    intro listed a w _ hr hy hS H
    refine ⟨fun h => (by rw [h] at hr; cases hr), fun j hj => ?_⟩
    by_cases hji : j = i
    · subst hji; exact hy.wpOp hi hS ⟨fun _ => hS, H⟩
    · have h0 := ready_mono hj hji
      rw [H.1] at h0
      cases h0
  | succ n ih =>
    intro listed a w hfree hr hy hS H
    refine ⟨fun h => (by rw [h] at hr; cases hr), fun j hj => ?_⟩
    by_cases hji : j = i
    · subst hji; exact hy.wpOp hi hS ⟨fun _ => hS, H⟩
    · have h1 := H.2 j (ready_mono hj hji)
      obtain ⟨hjun, oj, hoj, hall⟩ := mem_ready.1 hj
      have hnot : ∀ e ∈ oj.after, Region.binds md e = true → e.on ≠ i := fun e he hb heq => by
        have h3 := hall e he hb
        have h4 := (mem_ready.1 hr).1
        rw [heq] at h3
        rcases Nat.lt_or_ge i listed.size with h' | h'
        · simp [h'] at h3 h4; rw [h4] at h3; cases h3
        · simp [Array.getElem?_eq_none h'] at h3
      have htj : tl j = false := by
        cases ht : tl j with
        | false => rfl
        | true =>
          have hlt := (Array.getElem?_eq_some_iff.1 hoj).1
          unfold waitsB at hwt
          rw [List.all_eq_true] at hwt
          have h5 := hwt j (List.mem_range.2 hlt)
          rw [ht, hoj] at h5
          simp only [Bool.not_true, Bool.false_or, List.any_eq_true, Bool.and_eq_true, beq_iff_eq] at h5
          obtain ⟨e, he, hb, hon⟩ := h5
          exact absurd hon (hnot e (by simpa using he) hb)
      have h2 := wpOp_putIf hoj (hfree j oj hoj hji hjun hnot) (fun cs b => hsel i oi cs b hi) (fun cs b => hsel j oj cs b hoj) hQ hy h1
      have hfree' : ∀ k ok, ops[k]? = some ok → k ≠ i → (listed.setIfInBounds j true).getD k true = false →
          (∀ e ∈ ok.after, Region.binds md e = true → e.on ≠ i) → oi.apart ops ok = true := fun k ok hk hki hun hno => by
        refine hfree k ok hk hki ?_ hno
        by_cases hjk : j = k
        · subst hjk; exact hjun
        · rw [getD_set_ne true hjk] at hun; exact hun
      refine wpOp_mono (fun a' w' h3 => ⟨h3.2.1, ih (listed.setIfInBounds j true) a' w' hfree' (ready_mono hr (Ne.symm hji)) h3.1 (h3.2.1 htj) ?_⟩) h2
      rw [Array.setIfInBounds_comm _ _ hji]
      exact h3.2.2

theorem wpTail_take {i : Nat} {oi : Oper} {v : Value} {n : Nat} {listed : Array Bool} {a : Act} {w : World} (hi : ops[i]? = some oi)
    (hs : Region.noSelect ops = true) (hf : Region.free md ops listed i = true) (hr : (Region.ready md ops listed).contains i = true) (hti : tl i = false) (hwt : waitsB md ops tl i = true)
    (hQ : ∀ c a w, Q (.panic c) (a.put oi.dst v) w → Q (.panic c) a w) (hy : YieldsIf P ops S oi v a) (hS : S w)
    (h : wpTail P md ops Q S tl n (listed.setIfInBounds i true) (a.put oi.dst v) w) : wpTail P md ops Q S tl (n + 1) listed a w :=
  wpTail.first hi (Region.noSelect_spec hs) hQ hti hwt n listed a w (Region.free_spec hi hf) (by simpa using hr) hy hS h

theorem qTk {oi : Oper} {v : Value} {n : Nat} {listed : Array Bool} {a : Act} {w : World} (i : Nat) (hi : ops[i]? = some oi) (hy : YieldsIf P ops S oi v a)
    (h : wpTail P md ops Q S tl n (listed.setIfInBounds i true) (a.put oi.dst v) w)
    (hs : Region.noSelect ops = true := by kernel_rfl) (hf : Region.free md ops listed i = true := by kernel_rfl) (hr : (Region.ready md ops listed).contains i = true := by kernel_rfl) (hti : tl i = false := by rfl) (hwt : waitsB md ops tl i = true := by kernel_rfl)
    (hQ : ∀ c a w, Q (.panic c) (a.put oi.dst v) w → Q (.panic c) a w := by exact fun _ _ _ h => h) (hS : S w := by assumption) :
    wpTail P md ops Q S tl (n + 1) listed a w := wpTail_take hi hs hf hr hti hwt hQ hy hS h
/-- one operation comes up, and no other can -/
theorem wpTail_one {i : Nat} {o : Oper} {n : Nat} {listed : Array Bool} {a : Act} {w : World} (hr : Region.ready md ops listed = [i]) (ho : ops[i]? = some o) (ht : tl i = false)
    (h : ∀ K' : Act → World → Prop, Shut (∀ a w, S w → (S w → wpTail P md ops Q S tl n (listed.setIfInBounds i true) a w) → K' a w) → if Region.wanted o (yielded ops a.tmps) = true then Oper.wp P o a w K' Q else K' (a.put o.dst undef) w) :
    wpTail P md ops Q S tl (n + 1) listed a w := by
  refine ⟨fun h0 => (by rw [h0] at hr; cases hr), ?_⟩
  rw [hr]
  intro j hj
  obtain rfl : j = i := by simpa using hj
  exact wpOp_step ho (fun K' hK => h K' (fun a w hS hW => hK a w ⟨fun _ => hS, hW hS⟩))
/-- an operation that the condition need not outlast comes up, and no other can -/
theorem wpTail_last {i : Nat} {o : Oper} {n : Nat} {listed : Array Bool} {a : Act} {w : World} (hr : Region.ready md ops listed = [i]) (ho : ops[i]? = some o) (ht : tl i = true)
    (h : ∀ K' : Act → World → Prop, Shut (∀ a w, wpTail P md ops Q S tl n (listed.setIfInBounds i true) a w → K' a w) → if Region.wanted o (yielded ops a.tmps) = true then Oper.wp P o a w K' Q else K' (a.put o.dst undef) w) :
    wpTail P md ops Q S tl (n + 1) listed a w := by
  refine ⟨fun h0 => (by rw [h0] at hr; cases hr), ?_⟩
  rw [hr]
  intro j hj
  obtain rfl : j = i := by simpa using hj
  exact wpOp_step ho (fun K' hK => h K' (fun a w hW => hK a w ⟨(fun h => (by rw [ht] at h; cases h)), hW⟩))
theorem wpTail_done {listed : Array Bool} {a : Act} {w : World} (hr : Region.ready md ops listed = []) (h : Q .normal a w) : ∀ n, wpTail P md ops Q S tl n listed a w
  | 0 => ⟨hr, h⟩
  | _ + 1 => ⟨fun _ => h, by rw [hr]; simp⟩
theorem wp_region_tail {id : Nat} {a : Act} {w : World} (tl : Nat → Bool) (hm : P.follows .mixedOrders = true) (hS : S w.drew)
    (h : S w.drew → wpTail P .any ops Q S tl ops.size (Array.replicate ops.size false) a w.drew) : (Code.region id ops true).wp P Q a w :=
  wp_region_any hm (wpTail.any _ _ _ _ (h hS))
end
end Go.Proofs.Ytpgkhjmboiepcaa

/- Words for walks: rows beside changed blocks, where elements lie, normal ranges. No condition. -/
namespace Go.Proofs.Ytpgkhjmboiepcaa
open Go.RowKit
set_option linter.unusedVariables false
set_option maxRecDepth 100000

theorem Chg.frzO {lo hi : Nat} {w w' : World} (k : Chg lo hi w w') {b o : Nat} {f : Bool} (hd : b < lo ∨ hi ≤ b) (hb : b < w.heap.size) (hf : w.frozen? ⟨b, o, none⟩ = f) : w'.frozen? ⟨b, o, none⟩ = f :=
  (World.frozen?_of_block (a := ⟨b, o, none⟩) (k.block b hb hd)).trans hf
theorem OwnI.chgN {lo hi base g n c : Nat} {w w' : World} {xs : List Int} (h : OwnI w base (.slice (some ⟨g, 0, none⟩) n c) xs) (k : Chg lo hi w w') (hd : g < lo ∨ hi ≤ g) : OwnI w' base (.slice (some ⟨g, 0, none⟩) n c) xs := by
  refine ⟨h.1, ?_⟩
  rcases h.2 with ⟨h2, _⟩ | ⟨g', cap, cur, hv, hg, hh, r⟩
  · cases h2
  · cases hv
    exact .inr ⟨g, _, cur, rfl, hg, (k.block g (Array.getElem?_eq_some_iff.1 hh).1 hd).trans hh, r⟩
theorem OwnI.set {base g n c : Nat} {w : World} {xs : List Int} (h : OwnI w base (.slice (some ⟨g, 0, none⟩) n c) xs) (i : Nat) (x : Int) (hi : i < xs.length) : OwnI (w.setCell ⟨g, i, none⟩ (.int .i64 x)) base (.slice (some ⟨g, 0, none⟩) n c) (xs.set i x) := by
  have hn : n = xs.length := by
    rcases h.2 with ⟨h2, _⟩ | ⟨g', cap, cur, hv, _⟩
    · cases h2
    · cases hv; rfl
  subst hn
  unfold OwnI
  rw [List.length_set]
  exact own_set h i x hi
theorem OwnI.cell {base g n c : Nat} {w : World} {xs : List Int} (h : OwnI w base (.slice (some ⟨g, 0, none⟩) n c) xs) (i : Nat) (hi : i < xs.length) : w.cell? ⟨g, i, none⟩ = some (.int .i64 (xs.getD i 0)) ∧ w.frozen? ⟨g, i, none⟩ = false := by
  have hn : n = xs.length := by
    rcases h.2 with ⟨h2, _⟩ | ⟨g', cap, cur, hv, _⟩
    · cases h2
    · cases hv; rfl
  subst hn
  exact own_cell h i hi
theorem OwnI.len {base g n c : Nat} {w : World} {xs : List Int} (h : OwnI w base (.slice (some ⟨g, 0, none⟩) n c) xs) (hn : n ≤ 4194304 := by omega) : xs.length ≤ 4194304 := by
  rcases h.2 with ⟨h2, _⟩ | ⟨g', cap, cur, hv, _⟩
  · cases h2
  · cases hv; exact hn
theorem OwnI.any {base : Nat} {w : World} {v : Value} {xs : List Int} (h : OwnI w base v xs) : ∃ a n c, v = .slice a n c := by
  rcases h.2 with ⟨rfl, _⟩ | ⟨g', cap, cur, rfl, _⟩
  · exact ⟨_, _, _, rfl⟩
  · exact ⟨_, _, _, rfl⟩
theorem Ints.any {lo : Nat} {w : World} {v : Value} {xs : List Int} (h : Ints w lo v xs) : ∃ a n c, v = .slice a n c := by
  obtain ⟨a, c, rfl, _⟩ := h
  exact ⟨_, _, _, rfl⟩
theorem below_frz {B : Nat} {w w' : World} (h : Below B w w') {b o : Nat} {f : Bool} (hb : b < B) (hc : w.frozen? ⟨b, o, none⟩ = f) : w'.frozen? ⟨b, o, none⟩ = f :=
  (Below.frozen (p := ⟨b, o, none⟩) h hb).trans hc
/-- two rows of ints side by side -/
structure Two (B : Nat) (wr : World) (v1 v2 : Value) (xs ys : List Int) : Prop where
  o1 : OwnI wr B v1 xs
  o2 : OwnI wr B v2 ys
  sep : ∀ g, v1.ownBlock = some g → v2.ownBlock ≠ some g
  size : B ≤ wr.heap.size
theorem Two.nil {B : Nat} {w : World} (h : B ≤ w.heap.size) : Two B w (.slice none 0 0) (.slice none 0 0) [] [] := ⟨OwnI.nil _ _, OwnI.nil _ _, (fun g h => (by cases h)), h⟩
theorem Two.ext {B : Nat} {w w' : World} {v1 v2 : Value} {xs ys : List Int} (h : Two B w v1 v2 xs ys) (hx : Ext w w') : Two B w' v1 v2 xs ys := ⟨h.o1.ext hx, h.o2.ext hx, h.sep, Nat.le_trans h.size hx.size⟩
theorem Two.chg {B lo hi : Nat} {w w' : World} {v1 v2 : Value} {xs ys : List Int} (h : Two B w v1 v2 xs ys) (k : Chg lo hi w w') (hb : hi ≤ B) : Two B w' v1 v2 xs ys := ⟨h.o1.chg k hb, h.o2.chg k hb, h.sep, Nat.le_trans h.size k.size⟩
end Go.Proofs.Ytpgkhjmboiepcaa

/- Walks: cutDim of the reference. -/
namespace Go.Proofs.Ytpgkhjmboiepcaa
open Go.RowKit
set_option linter.unusedVariables false
set_option maxRecDepth 100000


theorem PView.own {w w' : World} {base : Int} {shape strides : List Int} {v1 v2 : Value} (o1 : OwnZ w' w.heap.size v1 shape) (o2 : OwnZ w' w.heap.size v2 strides) (hd : shape ≠ [] → strides ≠ [] → v1.ownBlock ≠ v2.ownBlock) (l1 : shape.length ≤ 4194304) (l2 : strides.length ≤ 4194304) (hx : Ext w w') :
    PView w base shape strides (.returned (.agg #[.int .i64 base, v1, v2])) w' := ⟨v1, v2, rfl, o1.ints l1, o2.ints l2, o1, o2, hd, hx⟩

end Go.Proofs.Ytpgkhjmboiepcaa

/- Walks: SliceDim and FlipDim of the reference. -/
namespace Go.Proofs.Ytpgkhjmboiepcaa
open Go.RowKit
set_option linter.unusedVariables false
set_option maxRecDepth 100000


/-- a view with a bool -/
abbrev VBool := Int × List Int × List Int × Bool
def PVB (w : World) (x : VBool) : Ending → World → Prop := PViewB w x.1 x.2.1 x.2.2.1 x.2.2.2
def noV : VBool := (0, [], [], false)
theorem PVB.no {w w' : World} {x : VBool} (h : x = noV) (hx : Ext w w') : PVB w x (.returned (.tuple #[.agg #[.int .i64 0, .slice none 0 0, .slice none 0 0], .bool false])) w' := by
  subst h; exact PViewB.no hx
theorem PVB.yes {w w' : World} {x : VBool} {b : Int} {s t : List Int} {v1 v2 : Value} (h : x = (b, s, t, true)) (o1 : OwnZ w' w.heap.size v1 s) (o2 : OwnZ w' w.heap.size v2 t) (hd : s ≠ [] → t ≠ [] → v1.ownBlock ≠ v2.ownBlock) (l1 : s.length ≤ 4194304) (l2 : t.length ≤ 4194304) (hx : Ext w w') :
    PVB w x (.returned (.tuple #[.agg #[.int .i64 b, v1, v2], .bool true])) w' := by
  subst h; exact ⟨v1, v2, rfl, o1.ints l1, o2.ints l2, o1, o2, hd, hx⟩

end Go.Proofs.Ytpgkhjmboiepcaa

/- Walks: permuted of the reference. -/
namespace Go.Proofs.Ytpgkhjmboiepcaa
open Go.RowKit
set_option linter.unusedVariables false
set_option maxRecDepth 100000

end Go.Proofs.Ytpgkhjmboiepcaa

/- Walks: insert of the reference. -/
namespace Go.Proofs.Ytpgkhjmboiepcaa
open Go.RowKit
set_option linter.unusedVariables false
set_option maxRecDepth 100000

end Go.Proofs.Ytpgkhjmboiepcaa

/- Walks: made, PermuteDims, FlipDim, AddDim and WindowsOf of the reference. -/
namespace Go.Proofs.Ytpgkhjmboiepcaa
open Go.RowKit
set_option linter.unusedVariables false
set_option maxRecDepth 100000


def madeV (b : Int) (s t : List Int) : VBool := if viewB b s t then (b, s, t, true) else noV
theorem made_c (b1 : Int) (u1 v1 : Value) (s1 t1 : List Int) (w : World) (l1 m1 : Nat) (h1 : Ints w l1 u1 s1) (k1 : Ints w m1 v1 t1) :
    Calls Try.prog 59 #[.agg #[.int .i64 b1, u1, v1]] w (PVB w (madeV b1 s1 t1)) := by
  cases ha : viewB b1 s1 t1
  · have : madeV b1 s1 t1 = noV := by unfold madeV; rw [ha]; rfl
    rw [this]; exact made_0 b1 u1 v1 s1 t1 w l1 m1 h1 k1 ha
  · have : madeV b1 s1 t1 = (b1, s1, t1, true) := by unfold madeV; rw [ha]; rfl
    rw [this]; exact made_1 b1 u1 v1 s1 t1 w l1 m1 h1 k1 ha
theorem PVB.any {w w' : World} {x : VBool} {b : Int} {s t : List Int} {ok : Bool} {v1 v2 : Value} (h : x = (b, s, t, ok)) (o1 : OwnZ w' w.heap.size v1 s) (o2 : OwnZ w' w.heap.size v2 t) (hd : s ≠ [] → t ≠ [] → v1.ownBlock ≠ v2.ownBlock) (l1 : s.length ≤ 4194304) (l2 : t.length ≤ 4194304) (hx : Ext w w') :
    PVB w x (.returned (.tuple #[.agg #[.int .i64 b, v1, v2], .bool ok])) w' := by
  subst h; exact ⟨v1, v2, rfl, o1.ints l1, o2.ints l2, o1, o2, hd, hx⟩
/-- the view of a VBool: as many strides as extents, no more than four -/
def VBool.fit (x : VBool) : Prop := x.2.2.1.length = x.2.1.length ∧ x.2.1.length ≤ 4
end Go.Proofs.Ytpgkhjmboiepcaa

/- Words for walks: an owned row with one element more. No condition. -/
namespace Go.Proofs.Ytpgkhjmboiepcaa
open Go.RowKit
set_option linter.unusedVariables false
set_option maxRecDepth 100000

theorem OwnI.row2 {w : World} {base : Nat} {v : Value} {xs : List Int} (h : OwnI w base v xs) (hn : xs ≠ []) : ∃ g n c, v = .slice (some ⟨g, 0, none⟩) n c ∧ Hid (n = xs.length) ∧ base ≤ g ∧ g < w.heap.size := by
  obtain ⟨g, c, rfl, h1, h2⟩ := h.row hn
  exact ⟨g, _, c, rfl, Lib.hid rfl, h1, h2⟩
end Go.Proofs.Ytpgkhjmboiepcaa

/- Walks: WindowsOf of the reference. -/
namespace Go.Proofs.Ytpgkhjmboiepcaa
open Go.RowKit
set_option linter.unusedVariables false
set_option maxRecDepth 100000

end Go.Proofs.Ytpgkhjmboiepcaa

/- Walks: drawn ranges and slices. -/
namespace Go.Proofs.Ytpgkhjmboiepcaa
open Go.RowKit
set_option linter.unusedVariables false
set_option maxRecDepth 100000

end Go.Proofs.Ytpgkhjmboiepcaa

/- Walks: drawn slices. -/
namespace Go.Proofs.Ytpgkhjmboiepcaa
open Go.RowKit
set_option linter.unusedVariables false
set_option maxRecDepth 100000

/-- a slice at a block -/
def SlAt (w : World) (g : Nat) : Prop := ∃ (F T B : Int) (hf ht : Bool), w.cell? ⟨g, 0, none⟩ = some (.int .i64 F) ∧ w.cell? ⟨g, 1, none⟩ = some (.int .i64 T) ∧ w.cell? ⟨g, 2, none⟩ = some (.int .i64 B) ∧ w.cell? ⟨g, 3, none⟩ = some (.bool hf) ∧ w.cell? ⟨g, 4, none⟩ = some (.bool ht) ∧
  w.frozen? ⟨g, 0, none⟩ = false ∧ w.frozen? ⟨g, 1, none⟩ = false ∧ w.frozen? ⟨g, 2, none⟩ = false ∧ w.frozen? ⟨g, 3, none⟩ = false ∧ w.frozen? ⟨g, 4, none⟩ = false
theorem SlAt.lt {w : World} {g : Nat} (h : SlAt w g) : g < w.heap.size := by obtain ⟨F, T, B, hf, ht, h, _⟩ := h; exact qB h

end Go.Proofs.Ytpgkhjmboiepcaa

/- Walks: drawn shapes. -/
namespace Go.Proofs.Ytpgkhjmboiepcaa
open Go.RowKit
set_option linter.unusedVariables false
set_option maxRecDepth 100000

theorem Below.chg {B : Nat} {a b : World} (h : Below B a b) : Chg B a.heap.size a b :=
  ⟨h.os, h.tape, h.output, h.size, fun k hk hd => by
    rcases hd with hd | hd
    · exact h.block k hd
    · omega⟩
theorem Rd.below {B : Nat} {a b : World} {rb k : Nat} (h : Rd a rb k) (hb : Below B a b) (hl : rb < B) : Rd b rb k := h.chgO (Below.chg hb) hl
theorem Rch.below {rb : Nat} {w a b : World} (h : Chg rb (rb + 1) w a) (hb : Below w.heap.size a b) : Chg rb (rb + 1) w b :=
  ⟨hb.os.trans h.os, hb.tape.trans h.tape, hb.output.trans h.output, Nat.le_trans h.size hb.size, fun k hk hd => (hb.block k hk).trans (h.block k hk hd)⟩

end Go.Proofs.Ytpgkhjmboiepcaa

/- Words for drawn views: a view in a block, with rows of its own. No condition. -/
namespace Go.Proofs.Ytpgkhjmboiepcaa
open Go.RowKit
set_option linter.unusedVariables false
set_option maxRecDepth 100000

/-- a view lies in block g; its rows are the call's own, from block B on, not g -/
structure VAt (B g : Nat) (w : World) (b : Int) (u v : Value) (s t : List Int) : Prop where
  c0 : w.cell? ⟨g, 0, none⟩ = some (.int .i64 b)
  c1 : w.cell? ⟨g, 1, none⟩ = some u
  c2 : w.cell? ⟨g, 2, none⟩ = some v
  f0 : w.frozen? ⟨g, 0, none⟩ = false
  f1 : w.frozen? ⟨g, 1, none⟩ = false
  f2 : w.frozen? ⟨g, 2, none⟩ = false
  o1 : OwnZ w B u s
  o2 : OwnZ w B v t
  sep : s ≠ [] → t ≠ [] → u.ownBlock ≠ v.ownBlock
  n1 : s ≠ [] → u.ownBlock ≠ some g
  n2 : t ≠ [] → v.ownBlock ≠ some g
  fit : t.length = s.length
  le : s.length ≤ 4
section
variable {B g rb lo hi : Nat} {w w' : World} {b : Int} {u v : Value} {s t : List Int}
theorem VAt.lt (h : VAt B g w b u v s t) : g < w.heap.size := qB h.c0
theorem VAt.ext (h : VAt B g w b u v s t) (x : Ext w w') : VAt B g w' b u v s t :=
  ⟨x.cell h.c0, x.cell h.c1, x.cell h.c2, x.frz h.lt h.f0, x.frz h.lt h.f1, x.frz h.lt h.f2, h.o1.ext x, h.o2.ext x, h.sep, h.n1, h.n2, h.fit, h.le⟩
/-- another block has turned, behind the rows and the view -/
theorem VAt.chgB (h : VAt B g w b u v s t) (k : Chg lo hi w w') (hg : g < lo) (h1 : s ≠ [] → ∀ q, u.ownBlock = some q → q < lo) (h2 : t ≠ [] → ∀ q, v.ownBlock = some q → q < lo) : VAt B g w' b u v s t :=
  ⟨k.cell (by omega) h.c0, k.cell (by omega) h.c1, k.cell (by omega) h.c2, k.frzO (by omega) h.lt h.f0, k.frzO (by omega) h.lt h.f1, k.frzO (by omega) h.lt h.f2, h.o1.chgB k h1, h.o2.chgB k h2, h.sep, h.n1, h.n2, h.fit, h.le⟩
/-- another block has turned, ahead of the rows, not the view's -/
theorem VAt.chg (h : VAt B g w b u v s t) (k : Chg lo hi w w') (hg : g < lo ∨ hi ≤ g) (hb : hi ≤ B) : VAt B g w' b u v s t :=
  ⟨k.cell hg h.c0, k.cell hg h.c1, k.cell hg h.c2, k.frzO hg h.lt h.f0, k.frzO hg h.lt h.f1, k.frzO hg h.lt h.f2, h.o1.chg k hb, h.o2.chg k hb, h.sep, h.n1, h.n2, h.fit, h.le⟩
theorem VAt.lower (h : VAt B g w b u v s t) {B' : Nat} (hb : B' ≤ B) : VAt B' g w b u v s t := ⟨h.c0, h.c1, h.c2, h.f0, h.f1, h.f2, h.o1.lower hb, h.o2.lower hb, h.sep, h.n1, h.n2, h.fit, h.le⟩
theorem VAt.new (b : Int) (o1 : OwnZ w B u s) (o2 : OwnZ w B v t) (hs : s ≠ [] → t ≠ [] → u.ownBlock ≠ v.ownBlock) (hf : t.length = s.length) (hl : s.length ≤ 4) : VAt B w.heap.size (w.alloc (.cells #[.int .i64 b, u, v] 25)) b u v s t :=
  ⟨by simp, by simp, by simp, by simp, by simp, by simp, o1.ext ((Ext.refl w).alloc _), o2.ext ((Ext.refl w).alloc _), hs, (fun h e => by have := o1.bound h _ e; omega), (fun h e => by have := o2.bound h _ e; omega), hf, hl⟩
end
/-- a view is stored into a block that lies ahead of its rows -/
theorem VAt.put {B g : Nat} {w : World} {b b0 : Int} {u v u0 v0 : Value} {s t : List Int} (c0 : w.cell? ⟨g, 0, none⟩ = some (.int .i64 b0)) (c1 : w.cell? ⟨g, 1, none⟩ = some u0) (c2 : w.cell? ⟨g, 2, none⟩ = some v0)
    (f0 : w.frozen? ⟨g, 0, none⟩ = false) (f1 : w.frozen? ⟨g, 1, none⟩ = false) (f2 : w.frozen? ⟨g, 2, none⟩ = false) (o1 : OwnZ w B u s) (o2 : OwnZ w B v t) (hs : s ≠ [] → t ≠ [] → u.ownBlock ≠ v.ownBlock) (hf : t.length = s.length) (hl : s.length ≤ 4) (hg : g < B) :
    VAt B g (((w.setCell ⟨g, 0, none⟩ (.int .i64 b)).setCell ⟨g, 1, none⟩ u).setCell ⟨g, 2, none⟩ v) b u v s t := by
  have k := Chg.three (lo := g) w (.int .i64 b) u v
  have m1 : s ≠ [] → u.ownBlock ≠ some g := fun h e => by obtain ⟨q, e2, h2, _⟩ := o1.lt h; rw [e2] at e; cases e; omega
  have m2 : t ≠ [] → v.ownBlock ≠ some g := fun h e => by obtain ⟨q, e2, h2, _⟩ := o2.lt h; rw [e2] at e; cases e; omega
  exact ⟨by go_simp, by go_simp, by go_simp, by go_simp, by go_simp, by go_simp, o1.chg k (by omega), o2.chg k (by omega), hs, m1, m2, hf, hl⟩

/-- a view that is told to be one has a dimension -/
def VBool.live (x : VBool) : Prop := x.2.2.2 = true → x.2.1 ≠ []
/-- a call hands back a view with a bool: as many strides as extents, no more than four -/
def PFit (w : World) (e : Ending) (w' : World) : Prop :=
  ∃ (b : Int) (s t : List Int) (ok : Bool) (p1 p2 : Option Addr) (n1 r1 n2 r2 : Nat), e = .returned (.tuple #[.agg #[.int .i64 b, .slice p1 n1 r1, .slice p2 n2 r2], .bool ok]) ∧ OwnZ w' w.heap.size (.slice p1 n1 r1) s ∧ OwnZ w' w.heap.size (.slice p2 n2 r2) t ∧
    (s ≠ [] → t ≠ [] → (Value.slice p1 n1 r1).ownBlock ≠ (Value.slice p2 n2 r2).ownBlock) ∧ t.length = s.length ∧ (s.length ≤ 4 ∧ (ok = true → s ≠ [])) ∧ Ext w w'
theorem PFit.of {w w' : World} {e : Ending} {x : VBool} (h : PVB w x e w') (hf : x.fit) (hv : x.live) : PFit w e w' := by
  obtain ⟨b, s, t, ok⟩ := x
  obtain ⟨sh, st, rfl, -, -, o1, o2, od, xx⟩ := h
  obtain ⟨p1, n1, r1, rfl⟩ := o1.form
  obtain ⟨p2, n2, r2, rfl⟩ := o2.form
  exact ⟨b, s, t, ok, p1, p2, n1, r1, n2, r2, rfl, o1, o2, od, hf.1, ⟨hf.2, hv⟩, xx⟩
/-- the state behind the choice of the next view -/
def NextAt (rb q gn gv : Nat) (w : World) (b : Int) (u v : Value) (s t : List Int) (ok : Value) (wx : World) : Prop :=
  ∃ (o : Bool) (b' : Int) (s' t' : List Int) (p1 p2 : Option Addr) (m1 r1 m2 r2 : Nat), ok = .bool o ∧ (o = true → s' ≠ []) ∧ VAt (gn + 1) gn wx b' (.slice p1 m1 r1) (.slice p2 m2 r2) s' t' ∧ VAt (w.heap.size + 1) gv wx b u v s t ∧
    VAt (w.heap.size + 1) w.heap.size wx 0 (.slice none 0 0) (.slice none 0 0) [] [] ∧ Rd wx rb (q + 20) ∧ Rch rb w wx
theorem NextAt.put {rb q gn gv B0 B m1 r1 m2 r2 : Nat} {w w12 : World} {b bn b' : Int} {u v un vn : Value} {p1 p2 : Option Addr} {s t sn tn s' t' : List Int} (o : Bool) (VN : VAt B0 gn w12 bn un vn sn tn) (V : VAt (w.heap.size + 1) gv w12 b u v s t)
    (Q : VAt (w.heap.size + 1) w.heap.size w12 0 (.slice none 0 0) (.slice none 0 0) [] []) (hr : Rd w12 rb (q + 20)) (X : Rch rb w w12) (h1 : rb < w.heap.size) (h2 : w.heap.size < gv) (h3 : gv < gn)
    (hb1 : s ≠ [] → ∀ g, u.ownBlock = some g → g < gn) (hb2 : t ≠ [] → ∀ g, v.ownBlock = some g → g < gn) (o1 : OwnZ w12 B (.slice p1 m1 r1) s') (o2 : OwnZ w12 B (.slice p2 m2 r2) t') (hs : s' ≠ [] → t' ≠ [] → (Value.slice p1 m1 r1).ownBlock ≠ (Value.slice p2 m2 r2).ownBlock) (hf : t'.length = s'.length) (hl : s'.length ≤ 4 ∧ (o = true → s' ≠ [])) (hB : gn < B) :
    NextAt rb q gn gv w b u v s t (.bool o) (((w12.setCell ⟨gn, 0, none⟩ (.int .i64 b')).setCell ⟨gn, 1, none⟩ (.slice p1 m1 r1)).setCell ⟨gn, 2, none⟩ (.slice p2 m2 r2)) :=
  ⟨o, b', s', t', p1, p2, m1, r1, m2, r2, rfl, hl.2, VAt.put VN.c0 VN.c1 VN.c2 VN.f0 VN.f1 VN.f2 (o1.lower hB) (o2.lower hB) hs hf hl.1 (Nat.lt_succ_self _), V.chgB (Chg.three w12 _ _ _) h3 hb1 hb2,
    Q.chgB (Chg.three w12 _ _ _) (by omega) (fun h => absurd rfl h) (fun h => absurd rfl h),
    Rd.set2 (show rb < gn by omega) (Rd.set2 (show rb < gn by omega) (Rd.set2 (show rb < gn by omega) hr)),
    ((X.set (show w.heap.size ≤ gn by omega) _).set (show w.heap.size ≤ gn by omega) _).set (show w.heap.size ≤ gn by omega) _⟩

end Go.Proofs.Ytpgkhjmboiepcaa

/- Walks: NewView of the reference: an empty row of strides has no capacity. -/
namespace Go.Proofs.Ytpgkhjmboiepcaa
open Go.RowKit
set_option linter.unusedVariables false
set_option maxRecDepth 100000

def PViewE (w : World) (b : Int) (s t : List Int) (e : Ending) (w' : World) : Prop := PView w b s t e w' ∧ (t = [] → ∃ b' u a, e = .returned (.agg #[b', u, .slice a 0 0]))
/-- strides of an empty shape: none, and no capacity -/
theorem PViewE.open {w w' : World} {b : Int} {s t : List Int} {e : Ending} (h : PViewE w b s t e w') : ∃ (p1 p2 : Option Addr) (n1 r1 n2 r2 : Nat), e = .returned (.agg #[.int .i64 b, .slice p1 n1 r1, .slice p2 n2 r2]) ∧ OwnZ w' w.heap.size (.slice p1 n1 r1) s ∧ OwnZ w' w.heap.size (.slice p2 n2 r2) t ∧
    (s ≠ [] → t ≠ [] → (Value.slice p1 n1 r1).ownBlock ≠ (Value.slice p2 n2 r2).ownBlock) ∧ (t = [] → n2 = 0 ∧ r2 = 0) ∧ Ext w w' := by
  obtain ⟨⟨sh, st, rfl, -, -, o1, o2, od, x⟩, hE⟩ := h
  obtain ⟨p1, n1, r1, rfl⟩ := o1.form
  obtain ⟨p2, n2, r2, rfl⟩ := o2.form
  refine ⟨p1, p2, n1, r1, n2, r2, rfl, o1, o2, od, fun ht => ?_, x⟩
  obtain ⟨b', u, a, h⟩ := hE ht
  simp at h
  exact ⟨h.2.2.2.1, h.2.2.2.2⟩

end Go.Proofs.Ytpgkhjmboiepcaa

/- Walks: a drawn view. -/
namespace Go.Proofs.Ytpgkhjmboiepcaa
open Go.RowKit
set_option linter.unusedVariables false
set_option maxRecDepth 100000


theorem VAt.open {B g : Nat} {w : World} {b : Int} {u v : Value} {s t : List Int} (h : VAt B g w b u v s t) : ∃ a1 c1 a2 c2, u = .slice a1 s.length c1 ∧ v = .slice a2 t.length c2 := by
  obtain ⟨a1, c1, h1⟩ := (h.o1.ints (by have := h.le; omega)).form
  obtain ⟨a2, c2, h2⟩ := (h.o2.ints (by have := h.le; have := h.fit; omega)).form
  exact ⟨a1, c1, a2, c2, h1, h2⟩

end Go.Proofs.Ytpgkhjmboiepcaa

/- Walks: a drawn view that may be no view. -/
namespace Go.Proofs.Ytpgkhjmboiepcaa
open Go.RowKit
set_option linter.unusedVariables false
set_option maxRecDepth 100000


theorem OwnZ.chgI {lo hi B : Nat} {w w' : World} {y : Value} {xs : List Int} (h : OwnZ w B y xs) (k : Chg lo hi w w') (hne : xs ≠ [] → ∀ g, y.ownBlock = some g → g < lo ∨ hi ≤ g) : OwnZ w' B y xs := by
  rcases h with ho | ho
  · exact .inl ho
  · by_cases hx : xs = []
    · subst hx
      rcases ho.2 with ⟨h2, _⟩ | ⟨g', cap, cur, rfl, hb, hh, r⟩
      · subst h2; exact .inl ⟨rfl, none, 0, rfl, by simp, fun _ => rfl⟩
      · exact .inl ⟨rfl, some ⟨g', 0, none⟩, cap, rfl, r.2.1, fun h => by cases h⟩
    · obtain ⟨g', cap, e, _⟩ := ho.row hx
      subst e
      exact .inr (ho.chgN k (hne hx g' rfl))
theorem Rch.below' {rb lo hi : Nat} {w a b : World} (h : Chg rb (rb + 1) w a) (k : Chg lo hi a b) (hl : w.heap.size ≤ lo) : Chg rb (rb + 1) w b :=
  ⟨k.os.trans h.os, k.tape.trans h.tape, k.output.trans h.output, Nat.le_trans h.size k.size, fun i hi2 hd => (k.block i (Nat.lt_of_lt_of_le hi2 h.size) (.inl (by omega))).trans (h.block i hi2 hd)⟩
/-- a view that need be none lies in block gv -/
def SAt (rb q gv : Nat) (w wx : World) : Prop := ∃ (b : Int) (s t : List Int) (p1 p2 : Option Addr) (n1 r1 n2 r2 : Nat), wx.cell? ⟨gv, 0, none⟩ = some (.int .i64 b) ∧ wx.cell? ⟨gv, 1, none⟩ = some (.slice p1 n1 r1) ∧ wx.cell? ⟨gv, 2, none⟩ = some (.slice p2 n2 r2) ∧
  OwnZ wx (w.heap.size + 1) (.slice p1 n1 r1) s ∧ OwnZ wx (w.heap.size + 1) (.slice p2 n2 r2) t ∧ (s.length ≤ 4 ∧ t.length ≤ 5) ∧ VAt (w.heap.size + 1) w.heap.size wx 0 (.slice none 0 0) (.slice none 0 0) [] [] ∧ Rd wx rb q ∧ Rch rb w wx
theorem SAt.of {rb q gv : Nat} {w wx : World} {b : Int} {p1 p2 : Option Addr} {n1 r1 n2 r2 : Nat} {s t : List Int} (V : VAt (w.heap.size + 1) gv wx b (.slice p1 n1 r1) (.slice p2 n2 r2) s t) (Q : VAt (w.heap.size + 1) w.heap.size wx 0 (.slice none 0 0) (.slice none 0 0) [] []) (hr : Rd wx rb q) (X : Rch rb w wx) : SAt rb q gv w wx :=
  ⟨b, s, t, p1, p2, n1, r1, n2, r2, V.c0, V.c1, V.c2, V.o1, V.o2, ⟨V.le, by have := V.fit; have := V.le; omega⟩, Q, hr, X⟩
theorem SAt.put {rb q gv : Nat} {w w9 : World} {b : Int} {p1 p2 : Option Addr} {n1 r1 n2 r2 : Nat} {v2 : Value} {s t : List Int} (c0 : w9.cell? ⟨gv, 0, none⟩ = some (.int .i64 b)) (c1 : w9.cell? ⟨gv, 1, none⟩ = some (.slice p1 n1 r1)) (c2 : w9.cell? ⟨gv, 2, none⟩ = some v2) (f2 : w9.frozen? ⟨gv, 2, none⟩ = false)
    (o1 : OwnZ w9 (w.heap.size + 1) (.slice p1 n1 r1) s) (o2 : OwnZ w9 (w.heap.size + 1) (.slice p2 n2 r2) t) (m1 : s ≠ [] → ∀ g, (Value.slice p1 n1 r1).ownBlock = some g → g ≠ gv) (m2 : ∀ g, (Value.slice p2 n2 r2).ownBlock = some g → g ≠ gv) (hl : s.length ≤ 4 ∧ t.length ≤ 5)
    (Q : VAt (w.heap.size + 1) w.heap.size w9 0 (.slice none 0 0) (.slice none 0 0) [] []) (hr : Rd w9 rb q) (X : Rch rb w w9) (hg : w.heap.size < gv) (hrb : rb < w.heap.size) : SAt rb q gv w (w9.setCell ⟨gv, 2, none⟩ (.slice p2 n2 r2)) := by
  have k : Chg gv (gv + 1) w9 (w9.setCell ⟨gv, 2, none⟩ (.slice p2 n2 r2)) := (Chg.refl gv (gv + 1) w9).setCell (p := ⟨gv, 2, none⟩) (Nat.le_refl _) (Nat.lt_succ_self _) _
  exact ⟨b, s, t, p1, p2, n1, r1, n2, r2, by go_simp, by go_simp, by go_simp, o1.chgI k (fun h g hg' => by have := m1 h g hg'; omega), o2.chgI k (fun _ g hg' => by have := m2 g hg'; omega), hl,
    Q.chgB k (by omega) (fun h => absurd rfl h) (fun h => absurd rfl h), Rd.set2 (show rb < gv by omega) hr, X.set (show w.heap.size ≤ gv by omega) _⟩

end Go.Proofs.Ytpgkhjmboiepcaa

/- What the arguments of a law read as, when they are opened: ints, lists of ints, views. -/
namespace Go.Proofs.Ytpgkhjmboiepcaa
open Go.ChangeShapes Go.WideShapes Go.ChangeAt Go.RowKit Go.Joins
set_option linter.unusedVariables false
set_option maxRecDepth 100000

theorem own : ownKnob Try.prog.godebug = none := by kernel_rfl
theorem laidOut : laidOutB Try.prog = true := by kernel_rfl
/-- a slice of ints that came in -/
def RawIn (w : World) (v : Value) (xs : List Int) : Prop := Raw w v xs ∧ xs.length ≤ maxLen

section
variable {H : Type} {enc : TypeId × Value → H} {w : World} {base : Nat} {spare : Nat → Bool} {held : Bool} {fuel : Nat}

theorem RawIn.form {v : Value} {xs : List Int} (h : RawIn w v xs) : ∃ a cap, v = .slice a xs.length cap := by
  obtain ⟨⟨a, cap, hv, _⟩, _⟩ := h; exact ⟨a, cap, hv⟩

end

end Go.Proofs.Ytpgkhjmboiepcaa

/- What the argument of a law on drawn data reads as, when it is opened: a slice of bytes. -/
namespace Go.Proofs.Ytpgkhjmboiepcaa
open Go.ChangeShapes Go.WideShapes Go.ChangeAt Go.RowKit Go.Joins
set_option linter.unusedVariables false

theorem bys_of_cells {W : World} {x : Addr} {n cap : Nat} {zs : List Int} (hl : n ≤ cap) (hm : cap ≤ maxLen) (hz : zs.length = cap) (hcell : ∀ i, i < zs.length → W.cell? (x.add i) = some (.int .u8 (zs.getD i 0))) (hwz : ∀ m ∈ zs, (Lit.int .u8 m).wf = true) : BysIn W (some x) n cap := by
  refine ⟨hl, hm, fun i hi => ?_⟩
  obtain ⟨b, off, spot⟩ := x
  have h0 := hcell 0 (by omega)
  have hspot : spot = none := by simpa [Addr.add] using World.cell?_spot h0
  subst hspot
  have hc := hcell i (by omega)
  have e : (⟨b, off, none⟩ : Addr).add i = ⟨b, off + i, none⟩ := by unfold Addr.add; split <;> simp_all
  rw [e] at hc
  have hw := hwz (zs.getD i 0) (by simp [show i < zs.length by omega])
  refine ⟨b, off, _, rfl, hc, ?_⟩
  have := bounds_u8 hw
  omega

end Go.Proofs.Ytpgkhjmboiepcaa

/- Walks: drawn arguments: a view; a view and a size. -/
namespace Go.Proofs.Ytpgkhjmboiepcaa
open Go.RowKit
set_option linter.unusedVariables false
set_option maxRecDepth 100000


end Go.Proofs.Ytpgkhjmboiepcaa

/- Walks: drawn memories, views of memories, values. -/
namespace Go.Proofs.Ytpgkhjmboiepcaa
open Go.RowKit
set_option linter.unusedVariables false
set_option maxRecDepth 100000

end Go.Proofs.Ytpgkhjmboiepcaa

/- What the joined form asks of the PROGRAM, whatever the function: each its own theorem. The head's long line of names is cut behind its third word first: read whole it outgrows the kernel's memory. -/
namespace Go.Proofs.Ytpgkhjmboiepcaa.facts

theorem words_ne : ∀ l : List Char, wordsSigns l ≠ []
  | [] => by simp [wordsSigns]
  | c :: r => by
    unfold wordsSigns
    split
    · simp
    · simp
    · split <;> simp

theorem words_app (b : List Char) : ∀ a : List Char, wordsSigns (a ++ Char.ofNat 32 :: b) = wordsSigns a ++ wordsSigns b
  | [] => by rw [List.nil_append]; rfl
  | c :: r => by
    have ih := words_app b r
    by_cases h : c = Char.ofNat 32
    · subst h
      have e : ∀ l : List Char, wordsSigns (Char.ofNat 32 :: l) = [] :: wordsSigns l := fun l => rfl
      rw [List.cons_append, e, e, ih]; rfl
    · have e : ∀ l : List Char, wordsSigns (c :: l) = match wordsSigns l with | w :: ws => (c :: w) :: ws | [] => [[c]] := by
        intro l
        conv => lhs; unfold wordsSigns
        split
        · rename_i h1; cases h1
        · rename_i h1; cases h1; exact absurd rfl h
        · rename_i h1; cases h1; rfl
      rw [List.cons_append, e, e, ih]
      cases hr : wordsSigns r with
      | nil => exact absurd hr (words_ne r)
      | cons w ws => simp

theorem cut_at {l : List Char} (h : (l.drop 76).head? = some (Char.ofNat 32)) : l = l.take 76 ++ Char.ofNat 32 :: l.drop 77 := by
  have e := List.take_append_drop 76 l
  cases hd : l.drop 76 with
  | nil => rw [hd] at h; cases h
  | cons c r =>
    rw [hd] at h
    have hc : c = Char.ofNat 32 := Option.some.inj h
    have : l.drop 77 = r := by
      have := congrArg (List.drop 1) hd
      simpa [List.drop_drop] using this
    rw [this, ← hc, ← hd]; exact e.symm

set_option maxRecDepth 100000 in
theorem order : ∃ l, Try.checked.prog.initOrder = String.ofList l ∧ (l.drop 76).head? = some (Char.ofNat 32) ∧ ∀ W, behindMainWord (wordsSigns (l.take 76) ++ W) = "cut".toList :: W := by
  unfold Try.checked Try.prog
  refine ⟨_, rfl, ?_, ?_⟩
  · kernel_rfl
  · intro W; kernel_rfl

theorem behind_all : ∃ W, behindMainWord (wordsSigns Try.checked.prog.initOrder.toList) = "cut".toList :: W := by
  obtain ⟨l, e, h1, h2⟩ := order
  refine ⟨wordsSigns (l.drop 77), ?_⟩
  rw [e, String.toList_ofList, cut_at h1, words_app, ← cut_at h1]
  exact h2 _

theorem strip (W : List (List Char)) : stripLifts liftWords ("cut".toList :: W) = ([], "cut".toList :: W) := by kernel_rfl

theorem lifts : Try.checked.prog.headLifts = [] := by
  unfold Program.headLifts
  obtain ⟨W, e⟩ := behind_all
  rw [e, strip]
  kernel_rfl

theorem laysLater : Try.checked.prog.laysLater = false := by kernel_rfl
theorem bearsReflect : Try.checked.prog.bearsReflect = false := by kernel_rfl
theorem doorFits : Try.checked.prog.doorFits [] = true := by kernel_rfl

theorem mayEnter_of {P : Program} {W : List (List Char)} (e : behindMainWord (wordsSigns P.initOrder.toList) = "cut".toList :: W) (h1 : P.laysLater = false) (h2 : P.bearsReflect = false) (h3 : P.doorFits [] = true) : P.mayEnter = true := by
  unfold Program.mayEnter
  rw [e]
  simp only [strip, h1, h2, h3]
  kernel_rfl

theorem mayEnter : Try.checked.prog.mayEnter = true := by
  obtain ⟨W, e⟩ := behind_all
  exact mayEnter_of e laysLater bearsReflect doorFits

theorem liftsFinal_of {P : Program} {W : List (List Char)} (e : behindMainWord (wordsSigns P.initOrder.toList) = "cut".toList :: W) (h : P.headLifts = []) : P.liftsFinal = false := by
  unfold Program.liftsFinal
  rw [e, h]
  kernel_rfl

theorem liftsFinal : Try.checked.prog.liftsFinal = false := by
  obtain ⟨W, e⟩ := behind_all
  exact liftsFinal_of e lifts

theorem make_of {P : Program} {W : List (List Char)} (e : behindMainWord (wordsSigns P.initOrder.toList) = "cut".toList :: W) : P.make = some .cut := by
  unfold Program.make
  rw [e]
  kernel_rfl

theorem make : Try.checked.prog.make = some .cut := by
  obtain ⟨W, e⟩ := behind_all
  exact make_of e

theorem laid : laidOutB Try.checked.prog = true := by kernel_rfl
theorem mapped : mapsRowed Try.checked.prog = true := by kernel_rfl
theorem stops : Try.checked.prog.stops = [] := by kernel_rfl
theorem stopKnobs : Try.checked.prog.stopKnobs = [] := by kernel_rfl
theorem stopsHeard : Try.checked.prog.stopsHeard = true := by kernel_rfl
theorem plainKeys : Try.checked.prog.plainKeys = true := by kernel_rfl

set_option maxRecDepth 100000 in
theorem all {f : FuncId} {fn : Func} {s : ChangeSpec} {c : OpenClaim}
    (h1 : c.wf (OpenSpec.ofChange s) = true) (h2 : fn.params.all (Try.checked.prog.readableRec ·) = true) (h3 : namedTie Try.checked.prog c.named s.vars = true)
    (h4 : (c.stops == []) = true) (h5 : (c.knobs == []) = true)
    (h6 : (c.inPlace == Try.checked.prog.inPlace f) = true) (h7 : (c.unfollowed == Try.checked.prog.unfollowed f) = true) (h8 : (c.recurses == Try.checked.prog.recurses f) = true) (h9 : (c.named == Try.checked.prog.varsNamed f) = true)
    (h10 : (c.maps == (fn.params.toList ++ s.plain.varTypes Try.checked.prog).any (Try.checked.prog.mapsRec ·) && (c.ifaces == (fn.params.toList ++ s.plain.varTypes Try.checked.prog).any (Try.checked.prog.ifacesRec ·)) && (c.mapsOut == Try.checked.prog.mapsAmong fn.resultTypes.toList) &&
      (c.loops == (fn.params.toList ++ s.plain.varTypes Try.checked.prog).any (Try.checked.prog.loopsFrom ·)) && (c.wideKeys == (fn.params.toList ++ s.plain.varTypes Try.checked.prog ++ fn.resultTypes.toList).any (Try.checked.prog.wideKeysFrom ·))) = true)
    (h11 : (s.vars.all (Try.checked.prog.varReadable ·) && fn.resultTypes.all (fun t => Try.checked.prog.readableRec t && decide (t < Try.checked.prog.types.size)) && (c.ifacesOut == fn.resultTypes.toList.any (Try.checked.prog.ifacesRec ·)) && (c.loopsOut == fn.resultTypes.toList.any (Try.checked.prog.loopsFrom ·))) = true)
    (h12 : c.plainKeys = true) (h13 : c.shortTexts.isNone = true) (h14 : c.lifted = false) (h15 : c.make = .cut)
    (h16 : (c.kinds == (if c.domain.isEmpty then [] else fn.params.toList.map fun t => match Try.checked.prog.underlying t with | some (.int k) => some k | _ => none)) = true) (h17 : (c.pinned == c.pinnedBy) = true)
    (h18 : (c.veiled == (fn.params.toList ++ s.plain.varTypes Try.checked.prog ++ fn.resultTypes.toList).any (Try.checked.prog.veiledRec ·)) = true)
    (h19 : c.veiledFits Try.checked.prog fn.params.toList (fn.params.toList ++ s.plain.varTypes Try.checked.prog ++ fn.resultTypes.toList) = true) :
    joinedFacts Try.checked.prog f fn s c = true := by
  unfold joinedFacts
  simp only [Bool.and_eq_true] at h10 h11 ⊢
  obtain ⟨⟨⟨⟨a1, a2⟩, a3⟩, a4⟩, a5⟩ := h10
  obtain ⟨⟨⟨b1, b2⟩, b3⟩, b4⟩ := h11
  refine ⟨⟨⟨⟨⟨⟨⟨⟨⟨⟨⟨⟨⟨⟨⟨⟨⟨⟨⟨⟨⟨⟨⟨⟨⟨⟨⟨⟨⟨⟨⟨h1, laid⟩, mapped⟩, h2⟩, h3⟩, h4⟩, ?_⟩, h5⟩, ?_⟩, h6⟩, h7⟩, h8⟩, h9⟩, a1⟩, a2⟩, a3⟩, a4⟩, a5⟩, b1⟩, b2⟩, b3⟩, b4⟩, ?_⟩, h13⟩, stopsHeard⟩, mayEnter⟩, ?_⟩, ?_⟩, h16⟩, h17⟩, h18⟩, h19⟩
  · rw [stops]; rfl
  · rw [stopKnobs]; rfl
  · rw [plainKeys, h12]; rfl
  · rw [liftsFinal, h14]; rfl
  · rw [make, h15]; exact beq_self_eq_true _

end Go.Proofs.Ytpgkhjmboiepcaa.facts
