/- Texts of these proofs put together: Mem, ViewA, ViewB, ViewC, SpA, SpB, LwA, Copy, LwB, LwC, LwD, Open, Facts. No condition. -/
import Derived.Test.YtfbbnbpobojboaaProg
import Derived.WalkKit
import Derived.WalkSpells
import Derived.WalkLawsBesides
import Derived.BigQuiet
import Derived.Deep.QuietTactic
import Derived.Deep.RegionLaw
import Derived.Deep.AppendLies
import Derived.Deep.RegionHeld3
import Derived.Deep.DeepFit
import Derived.Lib.Hide
import Derived.Maps.AppendAt
import Derived.Test.YtfbbnbpobojboaaRows
import Derived.ProofKit
import Derived.OpenShut
import Derived.ShutString
import Derived.ChangeOld
import Derived.Below
import Derived.Lib.SmallJoins
import Derived.KernelRfl
import Derived.JoinedOf
set_option linter.unusedVariables false
set_option linter.unusedSimpArgs false
/- Words for memory: worlds that only grew, slices of ints that read as lists. Its conditions: none. -/
namespace Go.Proofs.Ytfbbnbpobojboaa
open Go.RowKit

theorem qXt {p : Prop} (h : p := by repeat (first | (with_reducible assumption) | (with_reducible refine Ext.setCell ?_ (by first | (simp; done) | (simp; omega) | omega) _) | (with_reducible apply Ext.alloc) | (with_reducible apply Ext.drew) | (with_reducible apply Ext.drewN) | (with_reducible exact Ext.refl _))) : p := h
theorem qCl {p : Prop} (h : p := by first | (simp; done) | ((repeat rw [World.cell?_alloc_lt _ _ _ (by simp <;> omega)]); simp; done) | (go_simp; done)) : p := h
theorem qKr {p : Prop} (h : p := by kernel_rfl) : p := h
theorem qSo {p : Prop} (h : p := by first | (simp; done) | (simp; omega) | omega) : p := h
theorem qXo {p : Prop} (h : p := by repeat (first | exact Ext.refl _ | assumption | apply Ext.drewN | apply Ext.drew | apply Ext.alloc)) : p := h
theorem qFz {p : Prop} (h : p := by first | (simp; done) | (go_simp; done)) : p := h
theorem qGs {p : Prop} (h : p := by first | (go_simp; done) | (go_simp; rfl)) : p := h
theorem qB {w : World} {a : Addr} {v : Value} (h : w.cell? a = some v) : a.block < w.heap.size := World.block_lt_of_cell? _ _ h
theorem qa : type_of% @List.setIfInBounds_toArray := @List.setIfInBounds_toArray
theorem qb : type_of% @List.set_cons_zero := @List.set_cons_zero
theorem qc : type_of% @List.set_cons_succ := @List.set_cons_succ
theorem qD : type_of% @List.getElem_toArray := @List.getElem_toArray
theorem qE : type_of% @List.getElem_cons_succ := @List.getElem_cons_succ
theorem qF : type_of% @List.getElem_cons_zero := @List.getElem_cons_zero
section
variable {P : Program} {ops : Array Oper} {Q : Exit → Act → World → Prop} {md : Region.Mode} {S : World → Prop}
theorem qHk {oi : Oper} {v : Value} {fuel : Nat} {listed : Array Bool} {a : Act} {w : World} (i : Nat) (hi : ops[i]? = some oi) (hy : YieldsIf P ops S oi v a)
  (h : wpAnyH P md ops Q S fuel (listed.setIfInBounds i true) (a.put oi.dst v) w)
  (hs : Region.noSelect ops = true := by kernel_rfl) (hf : Region.free md ops listed i = true := by kernel_rfl) (hr : (Region.ready md ops listed).contains i = true := by kernel_rfl)
  (hQ : ∀ c a w, Q (.panic c) (a.put oi.dst v) w → Q (.panic c) a w := by exact fun _ _ _ h => h) (hS : S w := by assumption) :
  wpAnyH P md ops Q S (fuel + 1) listed a w := wpAnyH_take hi hs hf hr hQ hy hS h
theorem qHs {oi : Oper} {fuel : Nat} {listed : Array Bool} {a : Act} {w : World} (i : Nat) (hi : ops[i]? = some oi) (hy : YieldsIf P ops S oi undef a)
  (h : wpAnyH P md ops Q S fuel (listed.setIfInBounds i true) (a.put oi.dst undef) w)
  (hs : Region.noSelect ops = true := by kernel_rfl) (hf : Region.free md ops listed i = true := by kernel_rfl) (hr : (Region.ready md ops listed).contains i = true := by kernel_rfl)
  (hQ : ∀ c a w, Q (.panic c) (a.put oi.dst undef) w → Q (.panic c) a w := by exact fun _ _ _ h => h) (hS : S w := by assumption) :
  wpAnyH P md ops Q S (fuel + 1) listed a w := wpAnyH_take hi hs hf hr hQ hy hS h
theorem qHr {fuel : Nat} {listed : Array Bool} {a : Act} {w : World} {o : Oper} (i : Nat) (ho : ops[i]? = some o)
  (h : ∀ K' : Act → World → Prop, Shut (∀ a w, S w → (S w → wpAnyH P md ops Q S fuel (listed.setIfInBounds i true) a w) → K' a w) → if Region.wanted o (yielded ops a.tmps) = true then Oper.wp P o a w K' Q else K' (a.put o.dst undef) w)
  (hr : Region.ready md ops listed = [i] := by kernel_rfl) : wpAnyH P md ops Q S (fuel + 1) listed a w :=
 wpAnyH_ready hr (by simp) (AllReadyH.cons ho h AllReadyH.nil)
end

/-- what a call that writes nothing old leaves: the old blocks as they were -/
def Ext (w w' : World) : Prop := Below w.heap.size w w'

theorem Ext.refl (w : World) : Ext w w := Below.refl _ _
theorem Ext.trans {a b c : World} (h : Ext a b) (k : Ext b c) : Ext a c := Below.trans h (Below.mono k h.size)
theorem Ext.alloc {a w : World} (h : Ext a w) (o : Obj) : Ext a (w.alloc o) := Below.alloc h h.size o
theorem Ext.drew {a w : World} (h : Ext a w) : Ext a w.drew := Below.drew h
theorem Ext.drewN {a w : World} (h : Ext a w) (n : Nat) : Ext a (w.drewN n) := ⟨h.os, h.tape, h.output, h.size, h.block⟩
theorem Ext.setCell {a w : World} (h : Ext a w) {p : Addr} (hp : a.heap.size ≤ p.block) (u : Value) : Ext a (w.setCell p u) := Below.setCell h hp u
theorem Ext.grown {a w w' : World} {row : Option Nat} (h : Ext a w) (hg : w.grownBy w' row) (hr : ∀ k, row = some k → a.heap.size ≤ k) : Ext a w' := Below.grown h hg h.size hr
theorem Ext.cell {w w' : World} (h : Ext w w') {p : Addr} {v : Value} (hc : w.cell? p = some v) : w'.cell? p = some v :=
 (Below.cell h (World.block_lt_of_cell? _ _ hc)).trans hc
theorem Ext.rule {w w' : World} (h : Ext w w') : ∀ b o, b < w.heap.size → w'.cell? ⟨b, o, none⟩ = w.cell? ⟨b, o, none⟩ := fun b o hb => Below.cell (p := ⟨b, o, none⟩) h hb
theorem Ext.frule {w w' : World} (h : Ext w w') : ∀ b o, b < w.heap.size → w'.frozen? ⟨b, o, none⟩ = w.frozen? ⟨b, o, none⟩ := fun b o hb => Below.frozen (p := ⟨b, o, none⟩) h hb

/-- the slice value v reads as the ints xs; its cells lie in blocks from lo on, unfrozen -/
def Ints (w : World) (lo : Nat) (v : Value) (xs : List Int) : Prop :=
 ∃ a cap, v = .slice a xs.length cap ∧ xs.length ≤ cap ∧ cap ≤ maxLen ∧ (xs.length ≤ 4194304 ∧ (a = none → cap = 0)) ∧
  ∀ i, i < xs.length → ∃ b off, a = some ⟨b, off, none⟩ ∧ lo ≤ b ∧ w.cell? ⟨b, off + i, none⟩ = some (.int .i64 (xs.getD i 0)) ∧ w.frozen? ⟨b, off + i, none⟩ = false

theorem Ints.ext {w w' : World} {lo : Nat} {v : Value} {xs : List Int} (h : Ints w lo v xs) (hx : Ext w w') : Ints w' lo v xs := by
 obtain ⟨a, cap, hv, h1, h2, h3, h4⟩ := h
 refine ⟨a, cap, hv, h1, h2, h3, fun i hi => ?_⟩
 obtain ⟨b, off, ha, hl, hc, hf⟩ := h4 i hi
 exact ⟨b, off, ha, hl, hx.cell hc, (Below.frozen (p := ⟨b, off + i, none⟩) hx (World.block_lt_of_cell? _ _ hc)).trans hf⟩

theorem Ints.lower {w : World} {lo lo' : Nat} {v : Value} {xs : List Int} (h : Ints w lo v xs) (hl : lo' ≤ lo) : Ints w lo' v xs := by
 obtain ⟨a, cap, hv, h1, h2, h3, h4⟩ := h
 refine ⟨a, cap, hv, h1, h2, h3, fun i hi => ?_⟩
 obtain ⟨b, off, ha, hl', hc, hf⟩ := h4 i hi
 exact ⟨b, off, ha, by omega, hc, hf⟩

theorem Ints.nil (w : World) (lo cap : Nat) (a : Option Addr) (hc : cap ≤ maxLen) (ha : a = none → cap = 0) : Ints w lo (.slice a 0 cap) [] :=
 ⟨a, cap, rfl, by simp, hc, ⟨by simp, ha⟩, fun i hi => absurd hi (by simp)⟩

/-- an owned row of ints reads as its list -/
theorem Ints.of_own {w : World} {base E : Nat} {v : Value} {n : Nat} {xs : List Int} (h : w.ownsRow base E 1 v n (xs.map (Value.int .i64))) (hn : xs.length ≤ 4194304) : Ints w base v xs := by
 have hl : xs.length = n := by simpa using h.1
 subst hl
 rcases h.2 with ⟨rfl, h0⟩ | ⟨g, cap, cur, rfl, hb, hg, hnc, hcm, hcs, ht⟩
 ·
  obtain rfl : xs = [] := List.eq_nil_of_length_eq_zero h0
  exact Ints.nil _ _ _ _ (by simp) (fun _ => rfl)
 ·
  refine ⟨_, cap, rfl, hnc, hcm, ⟨hn, fun h => by cases h⟩, fun i hi => ⟨g, 0, rfl, hb, ?_, ?_⟩⟩
  ·
   have := World.ownsRow.cells h (g := g) rfl i (.int .i64 (xs.getD i 0)) (by simp [hi])
   have e : (⟨g, 0, none⟩ : Addr).add i = ⟨g, 0 + i, none⟩ := by unfold Addr.add; split <;> simp_all
   rw [e] at this
   exact this
  ·
   simpa using World.ownsRow.frozenAt h i

theorem infoInt : (Try.prog.info? 3).map (fun i => (i.zero, i.size, i.bytes)) = some (some (.int .i64 0), 1, 8) := by kernel_rfl

/-- a store into an owned row of ints -/
theorem own_set {w : World} {B E g cap n : Nat} {xs : List Int} (h : w.ownsRow B E 1 (.slice (some ⟨g, 0, none⟩) n cap) n (xs.map (Value.int .i64))) (k : Nat) (x : Int) (_hk : k < n) :
  (w.setCell ⟨g, k, none⟩ (.int .i64 x)).ownsRow B E 1 (.slice (some ⟨g, 0, none⟩) n cap) n ((xs.set k x).map (Value.int .i64)) := by
 have := (World.ownsRow.stored h k (.int .i64 x)).1
 rwa [List.map_set]

theorem own_len {w : World} {B E n : Nat} {v : Value} {xs : List Int} (h : w.ownsRow B E 1 v n (xs.map (Value.int .i64))) : xs.length = n := by simpa using h.1

theorem own_cell {w : World} {B E g cap n : Nat} {xs : List Int} (h : w.ownsRow B E 1 (.slice (some ⟨g, 0, none⟩) n cap) n (xs.map (Value.int .i64))) (k : Nat) (hk : k < n) :
  w.cell? ⟨g, k, none⟩ = some (.int .i64 (xs.getD k 0)) ∧ w.frozen? ⟨g, k, none⟩ = false := by
 refine ⟨?_, World.ownsRow.frozenAt h k⟩
 rw [World.ownsRow.cellAt h k (by omega)]
 have := own_len h
 simp [show k < xs.length by omega]

theorem made_ints (n : Nat) : (madeCells #[Value.int .i64 0] n).toList = (List.replicate n (0 : Int)).map (Value.int .i64) := by
 rw [toList_madeCells_one]; simp

theorem own_ext {w w' : World} {B E n : Nat} {v : Value} {xs : List Value} (h : w.ownsRow B E 1 v n xs) (hx : Ext w w') : w'.ownsRow B E 1 v n xs := by
 refine ⟨h.1, ?_⟩
 rcases h.2 with h2 | ⟨g, cap, cur, hv, hg, hh, r⟩
 ·
  exact .inl h2
 ·
  exact .inr ⟨g, cap, cur, hv, hg, (hx.block g (Array.getElem?_eq_some_iff.1 hh).1).trans hh, r⟩


/-- an owned row of ints -/
def OwnI (w : World) (base : Nat) (v : Value) (xs : List Int) : Prop := w.ownsRow base 3 1 v xs.length (xs.map (Value.int .i64))

theorem OwnI.ints {w : World} {base : Nat} {v : Value} {xs : List Int} (h : OwnI w base v xs) (hn : xs.length ≤ 4194304) : Ints w base v xs := Ints.of_own h hn
theorem OwnI.ext {w w' : World} {base : Nat} {v : Value} {xs : List Int} (h : OwnI w base v xs) (hx : Ext w w') : OwnI w' base v xs := own_ext h hx
theorem OwnI.lit0 (w : World) (base : Nat) (hb : base ≤ w.heap.size) : OwnI (w.alloc (.cells #[] 3)) base (.slice (some ⟨w.heap.size, 0, none⟩) 0 0) [] :=
 World.ownsRow_lit w #[] 0 hb (by simp) rfl
theorem OwnI.nil (w : World) (base : Nat) : OwnI w base (.slice none 0 0) [] := World.ownsRow_nil _ _ _ _

theorem OwnI.lower {w : World} {base base' : Nat} {v : Value} {xs : List Int} (h : OwnI w base v xs) (hb : base' ≤ base) : OwnI w base' v xs :=
 ⟨h.1, h.2.imp id fun ⟨g, cap, cur, hv, hg, r⟩ => ⟨g, cap, cur, hv, Nat.le_trans hb hg, r⟩⟩

/-- an owned row of ints, or nothing at all -/
def OwnZ (w : World) (base : Nat) (v : Value) (xs : List Int) : Prop := (xs = [] ∧ ∃ a cap, v = .slice a 0 cap ∧ cap ≤ maxLen ∧ (a = none → cap = 0)) ∨ OwnI w base v xs
theorem OwnI.z {w : World} {base : Nat} {v : Value} {xs : List Int} (h : OwnI w base v xs) : OwnZ w base v xs := .inr h
theorem OwnZ.lower {w : World} {base base' : Nat} {v : Value} {xs : List Int} (h : OwnZ w base v xs) (hb : base' ≤ base) : OwnZ w base' v xs := h.imp id (fun h => h.lower hb)
theorem OwnZ.ext {w w' : World} {base : Nat} {v : Value} {xs : List Int} (h : OwnZ w base v xs) (hx : Ext w w') : OwnZ w' base v xs := h.imp id (fun h => h.ext hx)
theorem OwnZ.ints {w : World} {base : Nat} {v : Value} {xs : List Int} (h : OwnZ w base v xs) (hn : xs.length ≤ 4194304) : Ints w base v xs := by
 rcases h with ⟨rfl, a, cap, rfl, hc, ha⟩ | h
 ·
  exact Ints.nil _ _ _ _ hc ha
 ·
  exact h.ints hn

/-- a call hands back a new slice of these ints -/
def PInts (w : World) (xs : List Int) (e : Ending) (w' : World) : Prop := ∃ v, e = .returned v ∧ Ints w' w.heap.size v xs ∧ OwnZ w' w.heap.size v xs ∧ Ext w w'
theorem PInts.mk {w w' : World} {base : Nat} {xs : List Int} {v : Value} (h : OwnI w' base v xs) (hb : w.heap.size ≤ base) (hn : xs.length ≤ 4194304) (hx : Ext w w') : PInts w xs (.returned v) w' :=
 ⟨v, rfl, (h.lower hb).ints hn, (h.lower hb).z, hx⟩
theorem PInts.mkz {w w' : World} {base : Nat} {xs : List Int} {v : Value} (h : OwnZ w' base v xs) (hb : w.heap.size ≤ base) (hn : xs.length ≤ 4194304) (hx : Ext w w') : PInts w xs (.returned v) w' :=
 ⟨v, rfl, (h.lower hb).ints hn, (h.lower hb), hx⟩

theorem below_grownR {w w' : World} {base E size n : Nat} {v : Value} {xs : List Value} (h : w.ownsRow base E size v n xs) (hg : w.grownBy w' v.ownBlock) (hb : base ≤ w.heap.size) : Below base w w' :=
 (Below.refl base w).grown hg hb fun k hk => (World.ownsRow.lt h k hk).1

/-- the cells that an append takes -/
def SrcR (w : World) (size : Nat) (src : Value) (m : Nat) (news : List Value) : Prop :=
 ∃ a cap, src = .slice a m cap ∧ (a = none → m = 0 ∧ cap = 0) ∧ (∀ ad, a = some ad → ∀ j u, news[j]? = some u → w.cell? (ad.add j) = some u) ∧ news.length = m * size ∧ ∀ u ∈ news, u.oneCell' = true

theorem Ints.src {w : World} {lo : Nat} {v : Value} {ys : List Int} (h : Ints w lo v ys) : SrcR w 1 v ys.length (ys.map (Value.int .i64)) := by
 obtain ⟨a, cap, rfl, h1, h2, ⟨_, h3⟩, h4⟩ := h
 refine ⟨a, cap, rfl, fun h => ⟨by have := h3 h; omega, h3 h⟩, ?_, by simp, by intro u hu; simp at hu; obtain ⟨x, _, rfl⟩ := hu; rfl⟩
 rintro ad rfl j u hu
 have hj : j < ys.length := by
  rcases Nat.lt_or_ge j ys.length with h | h
  ·
   exact h
  ·
   rw [List.getElem?_eq_none (by simpa using h)] at hu; cases hu
 obtain ⟨b, off, ha, _, hc, _⟩ := h4 j hj
 cases ha
 have e : (⟨b, off, none⟩ : Addr).add j = ⟨b, off + j, none⟩ := by unfold Addr.add; split <;> simp_all
 rw [e, hc]
 simp [hj] at hu ⊢
 exact hu

section
variable {T E size bytes : Nat} {z : Value} {w : World} {base n m : Nat} {v src : Value} {xs news : List Value}

theorem run_appR (hT : Try.prog.underlying T = some (.slice E)) (hI : (Try.prog.info? E).map (fun i => (i.zero, i.size, i.bytes)) = some (some z, size, bytes)) (hzs : z.cells.size = size) (hsz : 0 < size) (ty : TypeId)
  (h : w.ownsRow base E size v n xs) (hs : SrcR w size src m news) (h63 : n + m ≤ 4194304) (hbytes : (n + m) * bytes ≤ 140737488355328) (hb : base ≤ w.heap.size) :
  ∃ v' w', (Builtin.append_ #[T, T] ty #[v, src]).run Try.prog w = .ok v' w' ∧ w'.ownsRow base E size v' (n + m) (xs ++ news) ∧ w.grownBy w' v.ownBlock ∧ Below base w w' ∧ (v'.ownBlock = v.ownBlock ∨ v'.ownBlock = some w.heap.size) := by
 obtain ⟨i0, hi, hz0, hz1, hz2⟩ := info_parts hI
 obtain ⟨a, cap, rfl, h3, h4, h5, h6⟩ := hs
 cases a with
 | none =>
  obtain ⟨rfl, rfl⟩ := h3 rfl
  obtain rfl : news = [] := List.eq_nil_of_length_eq_zero (by omega)
  exact ⟨v, w, run_append_owned_none (P := Try.prog) w base _ ty E i0 size hT hi v _ _ h, by simpa using h, World.grownBy.refl _ _, Below.refl _ _, .inl rfl⟩
 | some ad =>
  obtain ⟨v', w', hr, ho, hg, _, h7⟩ := run_append_own_at (P := Try.prog) w base T ty E i0 z size bytes hT hi hz0 hz1 hz2 hzs hsz v n xs h ad m cap news h5 (h4 ad rfl) h6 (by unfold maxLen; omega) hbytes hb
  exact ⟨v', w', hr, ho, hg, below_grownR h hg hb, h7⟩

theorem wp_appR (hT : Try.prog.underlying T = some (.slice E)) (hI : (Try.prog.info? E).map (fun i => (i.zero, i.size, i.bytes)) = some (some z, size, bytes)) (hzs : z.cells.size = size) (hsz : 0 < size)
  {o : Oper} {a : Act} {K : Act → World → Prop} {Q : Exit → Act → World → Prop} (s x : Operand)
  (ho : o.op = .call { callee := .builtin .append, args := #[s, x], argTypes := #[T, T] })
  (hs : a.eval s = v) (hx : a.eval x = src) (h : w.ownsRow base E size v n xs) (hsrc : SrcR w size src m news) (h63 : n + m ≤ 4194304) (hbytes : (n + m) * bytes ≤ 140737488355328) (hb : base ≤ w.heap.size)
  (hK : ∀ v' w', w'.ownsRow base E size v' (n + m) (xs ++ news) → w.grownBy w' v.ownBlock → Below base w w' → (v'.ownBlock = v.ownBlock ∨ v'.ownBlock = some w.heap.size) → K (a.put o.dst v') w') : o.wp Try.prog a w K Q := by
 obtain ⟨v', w', hr, h1, h2, h3, h4⟩ := run_appR hT hI hzs hsz o.type h hsrc h63 hbytes hb
 unfold Oper.wp execOp
 simp only [ho, resolve, invoke, builtin, Sem.run_bind, Sem.run_pure, Result.andThen_ok, List.map_toArray, List.map_cons, List.map_nil, hs, hx, hr]
 exact hK v' w' h1 h2 h3 h4

theorem wpList_appR (hT : Try.prog.underlying T = some (.slice E)) (hI : (Try.prog.info? E).map (fun i => (i.zero, i.size, i.bytes)) = some (some z, size, bytes)) (hzs : z.cells.size = size) (hsz : 0 < size)
  {ops : Array Oper} {rest : List Oper} {o : Oper} {a : Act} {Q : Exit → Act → World → Prop} (hgd : o.guard = none) (s x : Operand)
  (ho : o.op = .call { callee := .builtin .append, args := #[s, x], argTypes := #[T, T] })
  (hs : a.eval s = v) (hx : a.eval x = src) (h : w.ownsRow base E size v n xs) (hsrc : SrcR w size src m news) (h63 : n + m ≤ 4194304) (hbytes : (n + m) * bytes ≤ 140737488355328) (hb : base ≤ w.heap.size)
  (hK : ∀ v' w', w'.ownsRow base E size v' (n + m) (xs ++ news) → w.grownBy w' v.ownBlock → Below base w w' → (v'.ownBlock = v.ownBlock ∨ v'.ownBlock = some w.heap.size) → wpList Try.prog ops Q rest (a.put o.dst v') w') : wpList Try.prog ops Q (o :: rest) a w :=
 wpList_plain hgd fun _ hK' => wp_appR hT hI hzs hsz s x ho hs hx h hsrc h63 hbytes hb fun v' w' h1 h2 h3 h4 => hK' _ _ (hK v' w' h1 h2 h3 h4)

theorem step_appR (hT : Try.prog.underlying T = some (.slice E)) (hI : (Try.prog.info? E).map (fun i => (i.zero, i.size, i.bytes)) = some (some z, size, bytes)) (hzs : z.cells.size = size) (hsz : 0 < size)
  {ops : Array Oper} {o : Oper} {a : Act} {K : Act → World → Prop} {Q : Exit → Act → World → Prop} {F : Prop} (hgd : o.guard = none) (s x : Operand)
  (ho : o.op = .call { callee := .builtin .append, args := #[s, x], argTypes := #[T, T] })
  (hs : a.eval s = v) (hx : a.eval x = src) (h : w.ownsRow base E size v n xs) (hsrc : SrcR w size src m news) (h63 : n + m ≤ 4194304) (hbytes : (n + m) * bytes ≤ 140737488355328) (hb : base ≤ w.heap.size)
  (hK : ∀ v' w', w'.ownsRow base E size v' (n + m) (xs ++ news) → w.grownBy w' v.ownBlock → Below base w w' → (v'.ownBlock = v.ownBlock ∨ v'.ownBlock = some w.heap.size) → K (a.put o.dst v') w') :
  if Region.wanted o (yielded ops a.tmps) = true then Oper.wp Try.prog o a w K Q else F := by
 have hw : Region.wanted o (yielded ops a.tmps) = true := by simp [Region.wanted, hgd]
 rw [if_pos hw]
 exact wp_appR hT hI hzs hsz s x ho hs hx h hsrc h63 hbytes hb hK
end

section
variable {w : World} {base lo : Nat} {v src : Value} {xs ys : List Int}
theorem OwnI.of_app {w' : World} {v' : Value} (h : w'.ownsRow base 3 1 v' (xs.length + ys.length) (xs.map (Value.int .i64) ++ ys.map (Value.int .i64))) : OwnI w' base v' (xs ++ ys) := by
 unfold OwnI; rw [List.length_append, List.map_append]; exact h

theorem wpList_app {ops : Array Oper} {rest : List Oper} {o : Oper} {a : Act} {Q : Exit → Act → World → Prop} (hgd : o.guard = none) (s x : Operand)
  (ho : o.op = .call { callee := .builtin .append, args := #[s, x], argTypes := #[22, 22] })
  (hs : a.eval s = v) (hx : a.eval x = src) (h : OwnI w base v xs) (hsrc : Ints w lo src ys) (hn : xs.length + ys.length ≤ 4194304) (hb : base ≤ w.heap.size)
  (hK : ∀ v' w', OwnI w' base v' (xs ++ ys) → w.grownBy w' v.ownBlock → Below base w w' → (v'.ownBlock = v.ownBlock ∨ v'.ownBlock = some w.heap.size) → wpList Try.prog ops Q rest (a.put o.dst v') w') : wpList Try.prog ops Q (o :: rest) a w :=
 wpList_appR Try.underlying22 infoInt rfl (by decide) hgd s x ho hs hx h hsrc.src hn (by omega) hb fun v' w' h1 => hK v' w' (OwnI.of_app h1)

theorem step_app {ops : Array Oper} {o : Oper} {a : Act} {K : Act → World → Prop} {Q : Exit → Act → World → Prop} {F : Prop} (hgd : o.guard = none) (s x : Operand)
  (ho : o.op = .call { callee := .builtin .append, args := #[s, x], argTypes := #[22, 22] })
  (hs : a.eval s = v) (hx : a.eval x = src) (h : OwnI w base v xs) (hsrc : Ints w lo src ys) (hn : xs.length + ys.length ≤ 4194304) (hb : base ≤ w.heap.size)
  (hK : ∀ v' w', OwnI w' base v' (xs ++ ys) → w.grownBy w' v.ownBlock → Below base w w' → (v'.ownBlock = v.ownBlock ∨ v'.ownBlock = some w.heap.size) → K (a.put o.dst v') w') :
  if Region.wanted o (yielded ops a.tmps) = true then Oper.wp Try.prog o a w K Q else F :=
 step_appR Try.underlying22 infoInt rfl (by decide) hgd s x ho hs hx h hsrc.src hn (by omega) hb fun v' w' h1 => hK v' w' (OwnI.of_app h1)

theorem OwnI.kept {w' : World} {row : Option Nat} (h : OwnI w base v xs) (hg : w.grownBy w' row) (hne : v.ownBlock = none ∨ v.ownBlock ≠ row) : OwnI w' base v xs := World.ownsRow.kept h hg hne
end

/-- the one cell that 'append(out, x)' lays first -/
theorem Ints.one (w : World) (lo : Nat) (x : Int) (hl : lo ≤ w.heap.size) : Ints (w.alloc (.cells #[.int .i64 x] 3)) lo (.slice (some ⟨w.heap.size, 0, none⟩) 1 1) [x] :=
 (OwnI.ints (World.ownsRow_lit w #[.int .i64 x] 1 hl (by decide) rfl : OwnI _ lo _ [x]) (by simp))

theorem Ext.below {a w w' : World} {B : Nat} (h : Ext a w) (k : Below B w w') (hB : a.heap.size ≤ B) : Ext a w' := Below.trans h (k.mono hB)
theorem below_cell {B : Nat} {w w' : World} (h : Below B w w') {b o : Nat} {v : Value} (hb : b < B) (hc : w.cell? ⟨b, o, none⟩ = some v) : w'.cell? ⟨b, o, none⟩ = some v :=
 (Below.cell (p := ⟨b, o, none⟩) h hb).trans hc

section
variable {w : World} {src : Value} {ys : List Int} {lo : Nat}
/-- 'append([]int{}, src...)': onto a slice without room -/
theorem run_app0 (ad : Addr) (ty : TypeId) (hs : Ints w lo src ys) :
  ∃ v' w', (Builtin.append_ #[22, 22] ty #[.slice (some ad) 0 0, src]).run Try.prog w = .ok v' w' ∧ OwnZ w' w.heap.size v' ys ∧ Ext w w' ∧ (ys ≠ [] → v'.ownBlock = some w.heap.size) := by
 obtain ⟨i0, hi, hz0, hz1, hz2⟩ := info_parts infoInt
 have hs' := hs
 obtain ⟨a, cap, rfl, h1, h2, ⟨h3', h3⟩, h4⟩ := hs
 by_cases he : ys = []
 ·
  subst he
  refine ⟨.slice (some ad) 0 0, w, ?_, .inl ⟨rfl, some ad, 0, rfl, by simp, fun h => by cases h⟩, Ext.refl _, fun h => absurd rfl h⟩
  cases a with
  | none => simp [Builtin.append_, run_underlying Try.underlying22, sizeOf, typeInfo, hi, Builtin.lenOf, Builtin.firstCells, storeCells]
  | some x => simp [Builtin.append_, run_underlying Try.underlying22, sizeOf, typeInfo, hi, Builtin.lenOf, Builtin.firstCells, storeCells, loadCells, loadCellsFrom]
 ·
  have hpos : 0 < ys.length := by cases ys <;> simp_all
  obtain ⟨b0, off0, rfl, _⟩ := h4 0 hpos
  obtain ⟨a', cap', hv, _, hat, hl, h1c⟩ := hs'.src
  cases hv
  have hr := run_append_grow (P := Try.prog) w 22 ty 3 i0 (.int .i64 0) Try.underlying22 hi hz0 ad 0 0 [] (by simp) (fun j u hu => by simp at hu) ⟨b0, off0, none⟩ ys.length cap (ys.map (Value.int .i64)) (by rw [hz1]; simp) (hat _ rfl) (by omega) (by omega) (growslice_fits (by omega) (by rw [hz2]; omega))
  refine ⟨_, _, hr, .inr ?_, ((Ext.refl w).drew).alloc _, fun _ => rfl⟩
  have hge := grownCap_ge w (0 + ys.length) 0 3
  have hcm : grownCap w (0 + ys.length) 0 3 ≤ maxLen := grownCap_le_maxLen w _ 0 _ (by unfold maxLen; omega)
  refine ⟨by simp, .inr ⟨w.heap.size, _, _, by simp, Nat.le_refl _, heap_alloc_new w.drew _, by simpa using hge, hcm, ?_, ?_⟩⟩
  ·
   simp [size_zeroCells, Value.cells]; simp at hge; omega
  ·
   simp

theorem step_app0 {ops : Array Oper} {o : Oper} {a : Act} {K : Act → World → Prop} {Q : Exit → Act → World → Prop} {F : Prop} (hgd : o.guard = none) (s x : Operand) (ad : Addr)
  (ho : o.op = .call { callee := .builtin .append, args := #[s, x], argTypes := #[22, 22] })
  (hs : a.eval s = .slice (some ad) 0 0) (hx : a.eval x = src) (hsrc : Ints w lo src ys)
  (hK : ∀ v' w', OwnZ w' w.heap.size v' ys → Ext w w' → (ys ≠ [] → v'.ownBlock = some w.heap.size) → K (a.put o.dst v') w') :
  if Region.wanted o (yielded ops a.tmps) = true then Oper.wp Try.prog o a w K Q else F := by
 have hw : Region.wanted o (yielded ops a.tmps) = true := by simp [Region.wanted, hgd]
 rw [if_pos hw]
 obtain ⟨v', w', hr, h1, h2, h3⟩ := run_app0 ad o.type hsrc
 unfold Oper.wp execOp
 simp only [ho, resolve, invoke, builtin, Sem.run_bind, Sem.run_pure, Result.andThen_ok, List.map_toArray, List.map_cons, List.map_nil, hs, hx, hr]
 exact hK v' w' h1 h2 h3

theorem wpList_app0 {ops : Array Oper} {rest : List Oper} {o : Oper} {a : Act} {Q : Exit → Act → World → Prop} (hgd : o.guard = none) (s x : Operand) (ad : Addr)
  (ho : o.op = .call { callee := .builtin .append, args := #[s, x], argTypes := #[22, 22] })
  (hs : a.eval s = .slice (some ad) 0 0) (hx : a.eval x = src) (hsrc : Ints w lo src ys)
  (hK : ∀ v' w', OwnZ w' w.heap.size v' ys → Ext w w' → (ys ≠ [] → v'.ownBlock = some w.heap.size) → wpList Try.prog ops Q rest (a.put o.dst v') w') : wpList Try.prog ops Q (o :: rest) a w := by
 refine wpList_plain hgd fun K hK' => ?_
 obtain ⟨v', w', hr, h1, h2, h3⟩ := run_app0 ad o.type hsrc
 unfold Oper.wp execOp
 simp only [ho, resolve, invoke, builtin, Sem.run_bind, Sem.run_pure, Result.andThen_ok, List.map_toArray, List.map_cons, List.map_nil, hs, hx, hr]
 exact hK' _ _ (hK v' w' h1 h2 h3)
end

theorem OwnZ.form {w : World} {base : Nat} {v : Value} {xs : List Int} (h : OwnZ w base v xs) : ∃ a n c, v = .slice a n c := by
 rcases h with ⟨_, a, cap, rfl, _⟩ | h
 ·
  exact ⟨_, _, _, rfl⟩
 ·
  rcases h.2 with ⟨rfl, _⟩ | ⟨g, cap, cur, rfl, _⟩ <;> exact ⟨_, _, _, rfl⟩
theorem Ints.form {w : World} {base : Nat} {v : Value} {xs : List Int} (h : Ints w base v xs) : ∃ a c, v = .slice a xs.length c := by
 obtain ⟨a, cap, rfl, _⟩ := h; exact ⟨_, _, rfl⟩

theorem quiet_left {P : Program} {f : FuncId} {args : Array Value} {w : World} {n : Nat} {v : Value}
  (h : Calls P f args (w.drewN n) fun e w' => e = .returned v ∧ w.drewN n = w') : Calls P f args (w.drewN n) fun e w'' => e = .returned v ∧ ∃ m, w'' = w.drewN m :=
 h.mono fun _ _ ⟨he, hm⟩ => ⟨he, n, hm.symm⟩
def Drawn (w w' : World) : Prop := ∃ m, w' = w.drewN m
theorem Drawn.refl (w : World) : Drawn w w := ⟨0, rfl⟩
theorem Drawn.drewN {a w : World} (h : Drawn a w) (n : Nat) : Drawn a (w.drewN n) := by obtain ⟨m, rfl⟩ := h; exact ⟨m + n, by rw [World.drewN_drewN]⟩
theorem Drawn.ext {a w : World} (h : Drawn a w) : Ext a w := by obtain ⟨m, rfl⟩ := h; exact (Ext.refl _).drewN _
theorem Ints.take {w : World} {lo : Nat} {a : Option Addr} {n c : Nat} {xs : List Int} (h : Ints w lo (.slice a n c) xs) (k : Nat) (hk : k ≤ n) : Ints w lo (.slice a k c) (xs.take k) := by
 obtain ⟨a', cap, hv, h1, h2, ⟨h3, h3'⟩, h4⟩ := h
 cases hv
 have hl : (xs.take k).length = k := by simp; omega
 refine ⟨a, c, by rw [hl], by omega, h2, ⟨by omega, h3'⟩, fun i hi => ?_⟩
 obtain ⟨b, off, ha, hb, hc, hf⟩ := h4 i (by omega)
 refine ⟨b, off, ha, hb, ?_, hf⟩
 rw [hc]; simp [show i < k by omega]

theorem OwnZ.lt {w : World} {base : Nat} {v : Value} {xs : List Int} (h : OwnZ w base v xs) (hn : xs ≠ []) : ∃ g, v.ownBlock = some g ∧ base ≤ g ∧ g < w.heap.size := by
 rcases h with ⟨h, _⟩ | h
 ·
  exact absurd h hn
 ·
  obtain ⟨g, cap, rfl, hb, hg⟩ := World.ownsRow.form h (by cases xs <;> simp_all)
  exact ⟨g, rfl, hb, hg⟩

/-- a slice that is only read, while another row grows -/
theorem Ints.keepG {w w' : World} {lo : Nat} {a : Option Addr} {n c : Nat} {xs : List Int} {row : Option Nat} (h : Ints w lo (.slice a n c) xs) (hg : w.grownBy w' row) (hne : ∀ b off, a = some ⟨b, off, none⟩ → xs ≠ [] → row ≠ some b) : Ints w' lo (.slice a n c) xs := by
 obtain ⟨a', cap, hv, h1, h2, h3, h4⟩ := h
 cases hv
 refine ⟨a, c, rfl, h1, h2, h3, fun i hi => ?_⟩
 obtain ⟨b, off, ha, hb, hc, hf⟩ := h4 i hi
 have hlt := World.block_lt_of_cell? _ _ hc
 have hn := hne b off ha (by intro h; subst h; simp at hi)
 exact ⟨b, off, ha, hb, (World.cell?_of_block (a := ⟨b, off + i, none⟩) (hg.block b hlt (Ne.symm hn))).trans hc, (World.frozen?_of_block (a := ⟨b, off + i, none⟩) (hg.block b hlt (Ne.symm hn))).trans hf⟩
/-- where such a slice lies -/
theorem Ints.blk {w : World} {lo : Nat} {a : Option Addr} {n c : Nat} {xs : List Int} (h : Ints w lo (.slice a n c) xs) (hn : xs ≠ []) : ∃ b off, a = some ⟨b, off, none⟩ ∧ lo ≤ b ∧ b < w.heap.size := by
 obtain ⟨a', cap, hv, h1, h2, h3, h4⟩ := h
 cases hv
 obtain ⟨b, off, ha, hb, hc, hf⟩ := h4 0 (by cases xs <;> simp_all)
 exact ⟨b, off, ha, hb, World.block_lt_of_cell? _ _ hc⟩

/-- only blocks from lo on, below hi, have turned -/
structure Chg (lo hi : Nat) (w w' : World) : Prop where
 os : w'.os = w.os
 tape : w'.tape = w.tape
 output : w'.output = w.output
 size : w.heap.size ≤ w'.heap.size
 block : ∀ k, k < w.heap.size → (k < lo ∨ hi ≤ k) → w'.heap[k]? = w.heap[k]?
theorem Chg.refl (lo hi : Nat) (w : World) : Chg lo hi w w := ⟨rfl, rfl, rfl, Nat.le_refl _, fun _ _ _ => rfl⟩
theorem Chg.trans {lo hi : Nat} {a b c : World} (h : Chg lo hi a b) (k : Chg lo hi b c) : Chg lo hi a c :=
 ⟨k.os.trans h.os, k.tape.trans h.tape, k.output.trans h.output, Nat.le_trans h.size k.size, fun i hi hd => (k.block i (Nat.lt_of_lt_of_le hi h.size) hd).trans (h.block i hi hd)⟩
theorem Chg.setCell {lo hi : Nat} {a w : World} (h : Chg lo hi a w) {p : Addr} (h1 : lo ≤ p.block) (h2 : p.block < hi) (u : Value) : Chg lo hi a (w.setCell p u) :=
 h.trans ⟨rfl, rfl, rfl, by simp, fun k hk hd => Below.heap_setCell _ _ _ _ (by omega)⟩
theorem Chg.ext {lo hi : Nat} {a w w' : World} (h : Chg lo hi a w) (k : Ext w w') : Chg lo hi a w' :=
 h.trans ⟨k.os, k.tape, k.output, k.size, fun i hi _ => k.block i hi⟩
theorem Chg.of_ext {lo hi : Nat} {a w : World} (k : Ext a w) : Chg lo hi a w := (Chg.refl _ _ _).ext k
theorem Chg.mono {lo hi lo' hi' : Nat} {a w : World} (h : Chg lo hi a w) (h1 : lo' ≤ lo) (h2 : hi ≤ hi') : Chg lo' hi' a w := ⟨h.os, h.tape, h.output, h.size, fun k hk hd => h.block k hk (by omega)⟩
theorem Ext.chg {lo hi : Nat} {a w w' : World} (h : Ext a w) (k : Chg lo hi w w') (hl : a.heap.size ≤ lo) : Ext a w' :=
 ⟨k.os.trans h.os, k.tape.trans h.tape, k.output.trans h.output, Nat.le_trans h.size k.size, fun i hi => (k.block i (Nat.lt_of_lt_of_le hi h.size) (.inl (by omega))).trans (h.block i hi)⟩
theorem OwnI.chg {lo hi : Nat} {w w' : World} {base : Nat} {v : Value} {xs : List Int} (h : OwnI w base v xs) (k : Chg lo hi w w') (hb : hi ≤ base) : OwnI w' base v xs := by
 refine ⟨h.1, ?_⟩
 rcases h.2 with h2 | ⟨g, cap, cur, hv, hg, hh, r⟩
 ·
  exact .inl h2
 ·
  exact .inr ⟨g, cap, cur, hv, hg, (k.block g (Array.getElem?_eq_some_iff.1 hh).1 (.inr (by omega))).trans hh, r⟩
theorem OwnZ.chg {lo hi : Nat} {w w' : World} {base : Nat} {v : Value} {xs : List Int} (h : OwnZ w base v xs) (k : Chg lo hi w w') (hb : hi ≤ base) : OwnZ w' base v xs := h.imp id fun h => h.chg k hb
theorem Ints.chg {lo hi : Nat} {w w' : World} {l : Nat} {v : Value} {xs : List Int} (h : Ints w l v xs) (k : Chg lo hi w w') (hb : hi ≤ l) : Ints w' l v xs := by
 obtain ⟨a, cap, hv, h1, h2, h3, h4⟩ := h
 refine ⟨a, cap, hv, h1, h2, h3, fun i hi' => ?_⟩
 obtain ⟨b, off, ha, hl, hc, hf⟩ := h4 i hi'
 have hlt := World.block_lt_of_cell? _ _ hc
 exact ⟨b, off, ha, hl, (World.cell?_of_block (a := ⟨b, off + i, none⟩) (k.block b hlt (.inr (by omega)))).trans hc, (World.frozen?_of_block (a := ⟨b, off + i, none⟩) (k.block b hlt (.inr (by omega)))).trans hf⟩
theorem Chg.cell {lo hi : Nat} {w w' : World} (k : Chg lo hi w w') {b o : Nat} {v : Value} (hd : b < lo ∨ hi ≤ b) (hc : w.cell? ⟨b, o, none⟩ = some v) : w'.cell? ⟨b, o, none⟩ = some v :=
 (World.cell?_of_block (a := ⟨b, o, none⟩) (k.block b (World.block_lt_of_cell? _ _ hc) hd)).trans hc

theorem qCh {p : Prop} (h : p := by repeat (first | (with_reducible exact Chg.refl _ _ _) | (with_reducible refine Chg.setCell ?_ (by first | exact Nat.le_refl _ | (simp; done) | (simp; omega) | omega) (by first | exact Nat.lt_succ_self _ | (simp; done) | (simp; omega) | omega) _) | (with_reducible refine Chg.ext ?_ (Ext.alloc (Ext.refl _) _)) | (with_reducible refine Chg.ext ?_ (Ext.drew (Ext.refl _))))) : p := h

end Go.Proofs.Ytfbbnbpobojboaa

/- Walks of the program's counting functions. -/
namespace Go.Proofs.Ytfbbnbpobojboaa
open Go.RowKit
set_option linter.unusedVariables false
set_option maxRecDepth 100000

def countL (xs : List Int) : Int := xs.foldl (fun n x => wrap64 (n * x)) 1
theorem countL_take (xs : List Int) (k : Nat) (hk : k < xs.length) :
    countL (xs.take (k+1)) = wrap64 (countL (xs.take k) * xs.getD k 0) := by
  unfold countL; rw [List.take_succ_eq_append_getElem hk, List.foldl_append]; simp [hk]

def dotL (base : Int) (ix st : List Int) : Int := (ix.zip st).foldl (fun a p => wrap64 (a + wrap64 (p.1 * p.2))) base
theorem dotL_take (base : Int) (ix st : List Int) (k : Nat) (hk : k < ix.length) (hs : k < st.length) :
    dotL base (ix.take (k+1)) st = wrap64 (dotL base (ix.take k) st + wrap64 (ix.getD k 0 * st.getD k 0)) := by
  unfold dotL
  have e : ∀ n : Nat, (ix.take n).zip st = (ix.zip st).take n := by
    intro n
    apply List.ext_getElem
    · simp <;> omega
    · intro i h1 h2; simp
  rw [e, e, List.take_succ_eq_append_getElem (by simp; omega), List.foldl_append]
  simp [hk, hs]

set_option maxHeartbeats 400000 in
theorem countOf_c (xs : List Int) (v : Value) (w : World) (lo : Nat) (hv : Ints w lo v xs) :
    Calls Try.prog 157 #[v] w fun e w' => e = .returned (.int .i64 (countL xs)) ∧ w = w' := by
  obtain ⟨a, cap, rfl, hlc, hcm, ⟨hlen, _⟩, hc⟩ := hv
  go_enter Try.func157, Try.ntmps157
  go_wp2
  go_loop [3, 8] (fun n i => ∃ k : Nat, k ≤ xs.length ∧ i = .int .i64 k ∧ n = .int .i64 (countL (xs.take k))) (fun _ i => xs.length - (intOf i).toNat)
  case atStart => exact ⟨0, Nat.zero_le _, rfl, rfl⟩
  case round =>
    obtain ⟨k, hk, rfl, rfl⟩ := hrel
    by_cases hlt : k < xs.length
    · obtain ⟨b, off, rfl, _, hcell, _⟩ := hc k hlt
      have hs := Lib.hid (countL_take xs k hlt)
      clear hc
      go_wp2
      go_round
      case rel => exact ⟨k+1, by omega, by go_num, by rw [hs.out]; simp [hlt]⟩
      case measure => simp [intOf]; omega
    · obtain rfl : k = xs.length := by omega
      go_wp2
      go_ret
      exact ⟨by simp, rfl⟩

set_option maxHeartbeats 400000 in
theorem offsetAt_c (base : Int) (shv st ix : Value) (sts ixs : List Int) (w : World) (lo lo' : Nat) (hst : Ints w lo st sts) (hix : Ints w lo' ix ixs) (hl : ixs.length ≤ sts.length) :
    Calls Try.prog 158 #[.agg #[.int .i64 base, shv, st], ix] w fun e w' => e = .returned (.int .i64 (dotL base ixs sts)) ∧ Ext w w' := by
  obtain ⟨a, cap, rfl, hlc, hcm, ⟨hlen, _⟩, hc⟩ := hst
  obtain ⟨a2, cap2, rfl, hlc2, hcm2, ⟨hlen2, _⟩, hc2⟩ := hix
  go_enter Try.func158, Try.ntmps158
  go_wp2
  go_loop [5, 12] (fun n i => ∃ k : Nat, k ≤ ixs.length ∧ i = .int .i64 k ∧ n = .int .i64 (dotL base (ixs.take k) sts)) (fun _ i => ixs.length - (intOf i).toNat)
  case atStart => exact ⟨0, Nat.zero_le _, rfl, rfl⟩
  case round =>
    obtain ⟨k, hk, rfl, rfl⟩ := hrel
    by_cases hlt : k < ixs.length
    · obtain ⟨b, off, rfl, _, hcell, _⟩ := hc k (by omega)
      obtain ⟨b2, off2, rfl, _, hcell2, _⟩ := hc2 k hlt
      have hbl := qB hcell
      have hbl2 := qB hcell2
      have hs := Lib.hid (dotL_take base ixs sts k hlt (by omega))
      have hk2 : k < sts.length := by omega
      clear hc hc2
      go_wp2
      go_round
      case rel => exact ⟨k+1, by omega, by go_num, by rw [hs.out]; simp [hlt, hk2]⟩
      case measure => simp [intOf]; omega
    · obtain rfl : k = ixs.length := by omega
      go_wp2
      go_ret
      exact ⟨by simp, (Ext.refl _).alloc _⟩

theorem set_rep (m : Nat) (x : Int) (l : List Int) : (List.replicate (m+1) 0 ++ l).set m x = List.replicate m 0 ++ x :: l := by
  rw [List.set_append_left _ _ (by simp), List.replicate_succ']
  rw [List.set_append_right _ _ (by simp)]; simp
def unStep (e : Int) (p : List Int × Int) : List Int × Int := (p.2 % e :: p.1, p.2 / e)
def unrL (shape : List Int) (k : Int) : List Int × Int := shape.foldr unStep ([], k)
theorem unrL_drop (shape : List Int) (k : Int) (j : Nat) (hj : j < shape.length) : unrL (shape.drop j) k = unStep (shape.getD j 0) (unrL (shape.drop (j+1)) k) := by
  unfold unrL; rw [List.drop_eq_getElem_cons hj, List.foldr_cons]; simp [hj]
theorem unrL_len (shape : List Int) (k : Int) : (unrL shape k).1.length = shape.length := by
  induction shape with
  | nil => rfl
  | cons e s ih => simp [unrL, unStep] at ih ⊢; exact ih
theorem unrL_pos (shape : List Int) (k : Int) (hk : 0 ≤ k) (hp : ∀ e ∈ shape, 1 ≤ e) : 0 ≤ (unrL shape k).2 := by
  induction shape with
  | nil => simpa [unrL]
  | cons e s ih =>
    have := ih (fun e he => hp e (List.mem_cons_of_mem _ he))
    simp only [unrL, List.foldr_cons, unStep] at this ⊢
    exact Int.ediv_nonneg this (by have := hp e (List.mem_cons_self ..); omega)

theorem unrL_le (shape : List Int) (k : Int) (hk : 0 ≤ k) (hp : ∀ e ∈ shape, 1 ≤ e) : (unrL shape k).2 ≤ k := by
  induction shape with
  | nil => simp [unrL]
  | cons e s ih =>
    have := ih (fun e he => hp e (List.mem_cons_of_mem _ he))
    have h0 := unrL_pos s k hk (fun e he => hp e (List.mem_cons_of_mem _ he))
    simp only [unrL, List.foldr_cons, unStep] at this h0 ⊢
    exact Int.le_trans (Int.ediv_le_self _ h0) this

set_option maxHeartbeats 400000 in
theorem indexAt_c (xs : List Int) (v : Value) (k : Int) (w : World) (lo : Nat) (hv : Ints w lo v xs) (hk : 0 ≤ k) (hk2 : k ≤ 1000000) (hp : ∀ e ∈ xs, 1 ≤ e) :
    Calls Try.prog 159 #[v, .int .i64 k] w (PInts w (unrL xs k).1) := by
  obtain ⟨a, cap, rfl, hlc, hcm, ⟨hlen, _⟩, hc⟩ := hv
  obtain ⟨i0, hi, hz0, hz1, hz2⟩ := info_parts infoInt
  go_enter Try.func159, Try.ntmps159
  go_wp2_with (at_make; refine wpList_make_full _ rfl _ _ 22 rfl w.heap.size 3 i0 (.int .i64 0) 1 Try.underlying22 hi hz0 hz1 .i64 .i64 _ _ xs.length rfl rfl rfl rfl (by rw [hz2]; omega) (by unfold maxLen; omega) (Nat.le_refl _) ?_)
  intro w1 hown hgr
  have hx : Ext w w1 := (Ext.refl w).grown hgr (by simp)
  rw [made_ints] at hown
  clear hgr
  go_wp2
  go_loopw [1, 6] (fun kk i wr => ∃ j : Nat, j ≤ xs.length ∧ i = .int .i64 ((j : Int) - 1) ∧ kk = .int .i64 (unrL (xs.drop j) k).2 ∧
      wr.ownsRow w.heap.size 3 1 (.slice (some ⟨w.heap.size, 0, none⟩) xs.length xs.length) xs.length ((List.replicate j 0 ++ (unrL (xs.drop j) k).1).map (Value.int .i64)) ∧ Ext w wr)
    (fun _ i _ => (intOf i + 1).toNat)
  case atStart => exact ⟨xs.length, Nat.le_refl _, by go_num, by simp [unrL], by simpa [unrL] using hown, hx⟩
  case round =>
    obtain ⟨j, hj, rfl, rfl, ho, hxr⟩ := hrel
    cases j with
    | zero =>
      go_wp2
      go_ret
      refine PInts.mk (base := w.heap.size) ?_ (Nat.le_refl _) (by rw [unrL_len]; omega) hxr
      unfold OwnI; rw [unrL_len]; simpa using ho
    | succ m =>
      rw [show ((m + 1 : Nat) : Int) - 1 = (m : Int) by omega]
      obtain ⟨b, off, rfl, _, hcell, _⟩ := hc m (by omega)
      have hcell' := hxr.cell hcell
      have hbl := qB hcell
      obtain ⟨hoc, hof⟩ := own_cell ho m (by omega)
      have h1 : 1 ≤ xs[m]?.getD 0 := by
        rw [List.getElem?_eq_getElem (by omega)]; exact hp _ (List.getElem_mem ..)
      have h0 : 0 ≤ (unrL (xs.drop (m+1)) k).2 := unrL_pos _ _ hk (fun e he => hp e (List.mem_of_mem_drop he))
      have h0' : (unrL (xs.drop (m+1)) k).2 ≤ 1000000 := by
        have := unrL_le (xs.drop (m+1)) k hk (fun e he => hp e (List.mem_of_mem_drop he)); omega
      have hs := Lib.hid (unrL_drop xs k m (by omega))
      have hn := Lib.hid (own_set ho m ((unrL (xs.drop (m+1)) k).2 % xs.getD m 0) (by omega))
      clear hc ho
      go_wp2
      go_roundw
      case rel =>
        refine ⟨m, by omega, rfl, by rw [hs.out]; simp [unStep], ?_, hxr.setCell (Nat.le_refl _) _⟩
        have := hn.out
        rw [hs.out]
        rw [set_rep] at this
        simpa [unStep] using this
      case measure => simp [intOf]

theorem all_take {α : Type} (p : α → Bool) (xs : List α) (k : Nat) (hk : k < xs.length) (h : (xs.take k).all p = true) (hx : p xs[k] = true) : (xs.take (k+1)).all p = true := by
  rw [List.take_succ_eq_append_getElem hk, List.all_append, h]; simp [hx]
theorem all_no {α : Type} (p : α → Bool) (xs : List α) (k : Nat) (hk : k < xs.length) (hx : p xs[k] = false) : xs.all p = false := by
  rw [Bool.eq_false_iff]; intro h
  rw [List.all_eq_true] at h
  have := h _ (List.getElem_mem hk); simp [hx] at this

def inB (lo hi : Int) (e : Int) : Bool := decide (lo ≤ e ∧ e ≤ hi)
def shapeB (xs : List Int) : Bool := decide (xs.length ≤ 4) && xs.all (inB 0 60) && decide (countL xs ≤ 60)

set_option maxHeartbeats 400000 in
theorem isShape_c (xs : List Int) (v : Value) (w : World) (lo : Nat) (hv : Ints w lo v xs) :
    Calls Try.prog 123 #[v] w fun e w' => e = .returned (.bool (shapeB xs)) ∧ w = w' := by
  have hv0 := Lib.hid hv
  obtain ⟨a, cap, rfl, hlc, hcm, ⟨hlen, _⟩, hc⟩ := hv
  by_cases h4 : xs.length ≤ 4
  · go_enter Try.func123, Try.ntmps123
    go_wp2_with fail
    go_loop [10] (fun i => ∃ k : Nat, k ≤ xs.length ∧ i = .int .i64 k ∧ (xs.take k).all (inB 0 60) = true) (fun i => xs.length - (intOf i).toNat)
    case atStart => exact ⟨0, Nat.zero_le _, rfl, rfl⟩
    case round =>
      obtain ⟨k, hk, rfl, hall0⟩ := hrel
      have hall := Lib.hid hall0
      clear hall0
      by_cases hlt : k < xs.length
      · obtain ⟨b, off, rfl, _, hcell, _⟩ := hc k hlt
        clear hc
        go_wp2_with fail
        all_goals first
          | (go_ret; exact ⟨by simp [shapeB, all_no (inB 0 60) xs k hlt (by unfold inB; simp; omega)], rfl⟩)
          | (go_round; (case rel => exact ⟨k+1, by omega, by go_num, all_take _ xs k hlt hall.out (by unfold inB; simp; omega)⟩); (case measure => simp [intOf]; omega))
      · obtain rfl : k = xs.length := by omega
        go_wp2_with (go_at_call 157; refine (countOf_c xs _ _ lo hv0.out).mono ?_; rintro e w' ⟨rfl, rfl⟩)
        go_ret
        exact ⟨by have := hall.out; simp only [List.take_length] at this; simp [shapeB, h4, this], rfl⟩
  · go_enter Try.func123, Try.ntmps123
    go_wp2_with fail
    go_ret
    exact ⟨by simp [shapeB, h4], rfl⟩

end Go.Proofs.Ytfbbnbpobojboaa

/- Walks of the program's views. -/
namespace Go.Proofs.Ytfbbnbpobojboaa
open Go.RowKit
set_option linter.unusedVariables false
set_option maxRecDepth 100000

/-- a closure that only computes: what it answers -/
def Asks (F : Nat) (cs : Array Value) (w : World) (p : Int → Bool) : Prop :=
  (∃ fn, Try.prog.funcs[F]? = some fn ∧ fn.body.isSome = true ∧ fn.name ≠ "runtime.NumGoroutine") ∧
  ∀ x, Calls Try.prog F (#[.int .i64 x] ++ cs) w fun e w' => e = .returned (.bool (p x)) ∧ w = w'

theorem run_callFunc (F : Nat) (args : Array Value) (w : World) (h : ∃ fn, Try.prog.funcs[F]? = some fn ∧ fn.body.isSome = true ∧ fn.name ≠ "runtime.NumGoroutine") :
    (callFunc F args).run Try.prog w = .ok (.enter F args) w := by
  obtain ⟨fn, hf, hb, hn⟩ := h
  unfold callFunc
  have : fn.body.isNone = false := by cases h : fn.body <;> simp_all
  simp [hf, hn]
  intro h; simp [h] at hb

theorem any_take {α : Type} (p : α → Bool) (xs : List α) (k : Nat) (hk : k < xs.length) (h : (xs.take k).any p = false) (hx : p xs[k] = false) : (xs.take (k+1)).any p = false := by
  rw [List.take_succ_eq_append_getElem hk, List.any_append, h]; simp [hx]
theorem any_yes {α : Type} (p : α → Bool) (xs : List α) (k : Nat) (hk : k < xs.length) (hx : p xs[k] = true) : xs.any p = true := List.any_eq_true.2 ⟨_, List.getElem_mem hk, hx⟩

def findI (p : Int → Bool) (xs : List Int) : Int := if xs.any p then (xs.findIdx p : Int) else -1
theorem findI_yes (p : Int → Bool) (xs : List Int) (k : Nat) (hk : k < xs.length) (h : (xs.take k).any p = false) (hx : p xs[k] = true) : findI p xs = k := by
  unfold findI; rw [if_pos (any_yes p xs k hk hx)]
  congr 1
  have h1 : xs.findIdx p ≤ k := by
    rw [← Nat.lt_succ_iff]
    exact (List.findIdx_lt_length_of_exists ⟨_, List.getElem_mem hk, hx⟩ |> fun _ => Nat.lt_succ_of_le (by
      rcases Nat.lt_or_ge k (xs.findIdx p) with h' | h'
      · have := List.not_of_lt_findIdx h'; simp [hx] at this
      · exact h'))
  rcases Nat.lt_or_ge (xs.findIdx p) k with h' | h'
  · have hl : xs.findIdx p < xs.length := by omega
    have := List.findIdx_getElem (w := hl)
    rw [Bool.eq_false_iff] at h
    exact absurd (List.any_eq_true.2 ⟨xs[xs.findIdx p], List.mem_take_iff_getElem.2 ⟨_, by omega, rfl⟩, this⟩) h
  · omega
theorem findI_no (p : Int → Bool) (xs : List Int) (h : xs.any p = false) : findI p xs = -1 := by simp [findI, h]

set_option maxHeartbeats 400000 in
theorem indexFunc_c (F : Nat) (cs : Array Value) (p : Int → Bool) (xs : List Int) (v : Value) (w : World) (lo : Nat) (hv : Ints w lo v xs) (hF : Asks F cs w p) :
    Calls Try.prog 164 #[v, .func (.func F) #[] cs] w fun e w' => e = .returned (.int .i64 (findI p xs)) ∧ w = w' := by
  obtain ⟨hf, hF⟩ := hF
  have hr := fun args w => run_callFunc F args w hf
  obtain ⟨a, cap, rfl, hlc, hcm, ⟨hlen, _⟩, hc⟩ := hv
  go_enter Try.func164, Try.ntmps164
  go_wp2_with fail
  go_loop [8] (fun i => ∃ k : Nat, k ≤ xs.length ∧ i = .int .i64 k ∧ (xs.take k).any p = false) (fun i => xs.length - (intOf i).toNat)
  case atStart => exact ⟨0, Nat.zero_le _, rfl, rfl⟩
  case round =>
    obtain ⟨k, hk, rfl, hall0⟩ := hrel
    have hall := Lib.hid hall0
    clear hall0
    by_cases hlt : k < xs.length
    · obtain ⟨b, off, rfl, _, hcell, _⟩ := hc k hlt
      clear hc
      cases hp : p xs[k]
      · go_wp2_with fail
        refine (hF _).mono ?_
        rintro e w' ⟨rfl, rfl⟩
        go_wp2_with fail
        go_round
        case rel => exact ⟨k+1, by omega, by go_num, any_take p xs k hlt hall.out hp⟩
        case measure => simp [intOf]; omega
      · have hs := Lib.hid (findI_yes p xs k hlt hall.out hp)
        go_wp2_with fail
        refine (hF _).mono ?_
        rintro e w' ⟨rfl, rfl⟩
        go_wp2_with fail
        go_ret
        exact ⟨by rw [hs.out]; rfl, rfl⟩
    · obtain rfl : k = xs.length := by omega
      go_wp2_with fail
      go_ret
      exact ⟨by rw [findI_no p xs (by simpa using hall.out)]; rfl, rfl⟩

theorem findI_ge (p : Int → Bool) (xs : List Int) : decide (0 ≤ findI p xs) = xs.any p := by
  unfold findI; cases h : xs.any p <;> simp

set_option maxHeartbeats 400000 in
theorem containsFunc_c (F : Nat) (cs : Array Value) (p : Int → Bool) (xs : List Int) (v : Value) (w : World) (lo : Nat) (hv : Ints w lo v xs) (hF : Asks F cs w p) :
    Calls Try.prog 124 #[v, .func (.func F) #[] cs] w fun e w' => e = .returned (.bool (xs.any p)) ∧ w = w' := by
  have hg := Lib.hid (findI_ge p xs)
  go_enter Try.func124, Try.ntmps124
  go_wp2_with (go_at_call 164; refine (indexFunc_c F cs p xs _ _ lo hv hF).mono ?_; rintro e w' ⟨rfl, rfl⟩)
  go_ret
  exact ⟨by rw [← hg.out]; rfl, rfl⟩

/-- the closure of isView: a cell that is none of a memory -/
def outB (x : Int) : Bool := decide (x < 0) || decide (60 ≤ x)
theorem isViewF_c (w : World) : Asks 125 #[] w outB := by
  refine ⟨⟨Try.f125, Try.func125, rfl, by decide +kernel⟩, fun x => ?_⟩
  rw [show (#[Value.int .i64 x] ++ #[]) = #[.int .i64 x] by simp]
  by_cases h : x < 0
  · go_enter Try.func125, Try.ntmps125
    go_wp2_with fail
    go_ret
    exact ⟨by simp [outB, h], rfl⟩
  · have h' : ¬ (x < 0) := h
    go_enter Try.func125, Try.ntmps125
    go_wp2_with fail
    go_ret
    exact ⟨by simp [outB]; omega, rfl⟩

def offsL (base : Int) (shape strides : List Int) : List Int :=
  (List.range (countL shape).toNat).map fun (k : Nat) => dotL base (unrL shape k).1 strides

theorem offs_len_small : True := trivial
set_option maxHeartbeats 400000 in
theorem offsetsOf_c (base : Int) (sh st : Value) (shape strides : List Int) (w : World) (lo lo' : Nat) (hsh : Ints w lo sh shape) (hst : Ints w lo' st strides)
    (hl : shape.length ≤ strides.length) (hp : 0 < countL shape → ∀ e ∈ shape, 1 ≤ e) (hcnt : countL shape ≤ 1000000) :
    Calls Try.prog 110 #[.agg #[.int .i64 base, sh, st]] w (PInts w (offsL base shape strides)) := by
  obtain ⟨i0, hi, hz0, hz1, hz2⟩ := info_parts infoInt
  go_enter Try.func110, Try.ntmps110
  go_wp2_with (go_at_call 157; refine (countOf_c shape _ _ lo (hsh.ext ((Ext.refl _).alloc _ |>.alloc _))).mono ?_; rintro e w' ⟨rfl, rfl⟩)
  go_loopw [3, 9] (fun v i wr => ∃ k : Nat, k ≤ (offsL base shape strides).length ∧ i = .int .i64 k ∧ OwnI wr (w.heap.size + 1) v ((offsL base shape strides).take k) ∧
      wr.cell? ⟨w.heap.size, 0, none⟩ = some (.int .i64 base) ∧ wr.cell? ⟨w.heap.size, 1, none⟩ = some sh ∧ wr.cell? ⟨w.heap.size, 2, none⟩ = some st ∧ Ext w wr ∧ w.heap.size < wr.heap.size)
    (fun _ i _ => (offsL base shape strides).length - (intOf i).toNat)
  case atStart =>
    refine ⟨0, Nat.zero_le _, rfl, ?_, by simp, by simp, by simp, (Ext.refl _).alloc _ |>.alloc _, by simp; omega⟩
    simpa using OwnI.lit0 (w.alloc (.cells #[.int .i64 base, sh, st] 36)) (w.heap.size + 1) (by simp)
  case round =>
    obtain ⟨k, hk, rfl, ho, c0, c1, c2, hx, hz⟩ := hrel
    have hlen : (offsL base shape strides).length = (countL shape).toNat := by simp [offsL]
    by_cases hlt : k < (offsL base shape strides).length
    · have hkc : (k : Int) < countL shape := by omega
      go_wp2_with fail
      have hz2 : w.heap.size + 1 ≤ wr.heap.size := hz
      go_region_law (first
        | (go_simp; go_at_call 159; refine (indexAt_c shape _ (k : Int) _ lo (hsh.ext (by exact hx.drew)) (by omega) (by omega) (hp (by omega))).mono ?_; rintro e w1 ⟨v1, rfl, hi1, _, hx1⟩; have hr1 : ∀ b o, b < wr.heap.size → w1.cell? ⟨b, o, none⟩ = wr.cell? ⟨b, o, none⟩ := hx1.rule)
        | (go_simp; go_at_call 158; refine (offsetAt_c base _ _ _ strides _ _ lo' _ (hst.ext (by exact hx.trans (Ext.trans ((Ext.refl _).drew) hx1))) hi1 (by rw [unrL_len]; exact hl)).mono ?_; rintro e w2 ⟨rfl, hx2'⟩; have hs2 := hx2'.size; have hs1 := hx1.size; have hx2 : Ext wr w2 := (Ext.trans ((Ext.refl _).drew) hx1).trans hx2'; have hr2 : ∀ b o, b < wr.heap.size → w2.cell? ⟨b, o, none⟩ = wr.cell? ⟨b, o, none⟩ := hx2.rule)
        | (refine step_app rfl (.tmp 12) (.tmp 19) rfl rfl rfl ((ho.ext hx2).ext ((Ext.refl _).alloc _)) (Ints.one _ 0 _ (Nat.zero_le _)) (by simp; omega) (by simp at hs1; simp; omega) ?_; intro v' w3 ho3 hg3 hb3 _))
      all_goals
        have hxa := (hx.trans hx2).alloc (.cells #[.int .i64 (dotL base (unrL shape k).1 strides)] 3)
        have d0 := below_cell hb3 (b := w.heap.size) (by omega) (((Ext.alloc hx2 _).cell c0))
        have d1 := below_cell hb3 (b := w.heap.size) (by omega) (((Ext.alloc hx2 _).cell c1))
        have d2 := below_cell hb3 (b := w.heap.size) (by omega) (((Ext.alloc hx2 _).cell c2))
        have hz3 := hb3.size
        simp at hz3 hs1
        have ho4 : OwnI w3 (w.heap.size + 1) v' ((offsL base shape strides).take (k+1)) := by
          rw [List.take_succ_eq_append_getElem hlt]
          simpa [offsL] using ho3
        have hx3 := hxa.below hb3 (by omega)
        clear ho3 hg3 hb3 hxa hr1 hr2 hx2 hx2' hx1 ho
        go_wp2_with fail
        go_roundw
        case rel => exact ⟨k+1, by omega, by go_num, ho4, d0, d1, d2, hx3, by omega⟩
        case measure => simp [intOf]; omega
    · have hkk : k = (offsL base shape strides).length := by omega
      have hge : ¬ (k : Int) < countL shape := by omega
      rw [hkk, List.take_length] at ho
      have hI := Lib.hid ho
      clear ho hkk
      go_wp2_with fail
      go_ret
      exact PInts.mk hI.out (Nat.le_succ _) (by omega) hx
end Go.Proofs.Ytfbbnbpobojboaa

/- The walk of the program's isView. -/
namespace Go.Proofs.Ytfbbnbpobojboaa
open Go.RowKit
set_option linter.unusedVariables false
set_option maxRecDepth 100000

theorem countL_zero_or {xs : List Int} (hl : xs.length ≤ 4) (hb : ∀ e ∈ xs, 0 ≤ e ∧ e ≤ 60) : 0 ≤ countL xs ∧ countL xs ≤ 12960000 ∧ (0 < countL xs → ∀ e ∈ xs, 1 ≤ e) ∧ countL xs = xs.foldr (· * ·) 1 := by
  have key : ∀ (xs : List Int) (n B : Int), 0 ≤ n → n ≤ B → B * 60 ^ xs.length ≤ 12960000 → (∀ e ∈ xs, 0 ≤ e ∧ e ≤ 60) →
      xs.foldl (fun n x => wrap64 (n * x)) n = n * xs.foldr (· * ·) 1 ∧ 0 ≤ xs.foldr (· * ·) 1 ∧ n * xs.foldr (· * ·) 1 ≤ 12960000 ∧ (0 < xs.foldr (· * ·) 1 → ∀ e ∈ xs, 1 ≤ e) := by
    intro xs
    induction xs with
    | nil => intro n B h0 h1 h2 _; simp at h2 ⊢; omega
    | cons x xs ih =>
      intro n B h0 h1 h2 hb
      have hx := hb x (List.mem_cons_self ..)
      have hB : 0 ≤ B := by omega
      have hnx : n * x ≤ B * 60 := Int.mul_le_mul h1 hx.2 hx.1 hB
      have hnx0 : 0 ≤ n * x := Int.mul_nonneg h0 hx.1
      have hp : (1 : Int) ≤ 60 ^ xs.length := Int.pow_pos (by decide)
      have h2' : B * 60 * 60 ^ xs.length ≤ 12960000 := by
        rw [List.length_cons, Int.pow_succ] at h2
        rw [Int.mul_assoc, Int.mul_comm 60]; exact h2
      have hB60 : B * 60 ≤ 12960000 := Int.le_trans (by
        have := Int.mul_le_mul_of_nonneg_left hp (show 0 ≤ B * 60 by omega)
        simpa using this) h2'
      have hw : wrap64 (n * x) = n * x := IntWalk.wrap64_in _ ⟨by omega, by omega⟩
      obtain ⟨e1, e2, e3, e4⟩ := ih (n * x) (B * 60) hnx0 hnx h2' (fun e he => hb e (List.mem_cons_of_mem _ he))
      refine ⟨?_, ?_, ?_, ?_⟩
      · rw [List.foldl_cons, hw, e1, List.foldr_cons, Int.mul_assoc]
      · rw [List.foldr_cons]; exact Int.mul_nonneg hx.1 e2
      · rw [List.foldr_cons, ← Int.mul_assoc]; exact e3
      · rw [List.foldr_cons]; intro hpos e he
        have hx1 : 1 ≤ x := by
          rcases Int.lt_or_le 0 x with h | h
          · omega
          · have : x = 0 := by omega
            subst this; simp at hpos
        have : 0 < xs.foldr (· * ·) 1 := by
          rcases Int.lt_or_le 0 (xs.foldr (· * ·) 1) with h | h
          · exact h
          · have h0 : xs.foldr (· * ·) 1 = 0 := by omega
            rw [h0] at hpos; simp at hpos
        rcases List.mem_cons.1 he with rfl | he
        · exact hx1
        · exact e4 this e he
  have hpow : (1 : Int) * 60 ^ xs.length ≤ 12960000 := by
    have h4 : xs.length = 0 ∨ xs.length = 1 ∨ xs.length = 2 ∨ xs.length = 3 ∨ xs.length = 4 := by omega
    rcases h4 with h | h | h | h | h <;> rw [h] <;> decide
  obtain ⟨e1, e2, e3, e4⟩ := key xs 1 1 (by decide) (by decide) hpow hb
  have e : countL xs = xs.foldr (· * ·) 1 := by unfold countL; rw [e1]; simp
  rw [Int.one_mul] at e3
  exact ⟨by omega, by omega, fun h => e4 (by omega), e⟩
theorem shapeB_in {xs : List Int} (h : shapeB xs = true) : xs.length ≤ 4 ∧ (∀ e ∈ xs, 0 ≤ e ∧ e ≤ 60) ∧ 0 ≤ countL xs ∧ countL xs ≤ 60 ∧ (0 < countL xs → ∀ e ∈ xs, 1 ≤ e) := by
  simp only [shapeB, inB, Bool.and_eq_true, decide_eq_true_eq, List.all_eq_true] at h
  have := countL_zero_or h.1.1 h.1.2
  exact ⟨h.1.1, h.1.2, this.1, h.2, this.2.2.1⟩

def viewB (base : Int) (shape strides : List Int) : Bool :=
  shapeB shape && decide (strides.length = shape.length) && inB 0 60 base && strides.all (inB (-60) 60) && (offsL base shape strides).all (inB 0 59)

theorem any_out (l : List Int) : (!l.any outB) = l.all (inB 0 59) := by
  rw [List.not_any_eq_all_not]
  congr 1; funext x; unfold outB inB; rw [Bool.eq_iff_iff]; simp; omega
theorem viewB_end {base : Int} {shape strides : List Int} (h1 : (shapeB shape && decide (strides.length = shape.length) && inB 0 60 base) = true) (h2 : strides.all (inB (-60) 60) = true) :
    viewB base shape strides = !(offsL base shape strides).any outB := by
  unfold viewB; rw [h1, h2, any_out]; simp
set_option maxHeartbeats 800000 in
theorem isView_c (base : Int) (sh st : Value) (shape strides : List Int) (w : World) (lo lo' : Nat) (hsh : Ints w lo sh shape) (hst : Ints w lo' st strides) :
    Calls Try.prog 67 #[.agg #[.int .i64 base, sh, st]] w fun e w' => e = .returned (.bool (viewB base shape strides)) ∧ Ext w w' := by
  have hst0 := Lib.hid hst
  have hsh0 := Lib.hid hsh
  obtain ⟨a, cap, rfl, hlc, hcm, ⟨hlen, _⟩, hc⟩ := hst
  obtain ⟨a2, cap2, rfl, hlc2, hcm2, ⟨hlen2, _⟩, hc2⟩ := hsh
  by_cases hb : (shapeB shape && decide (strides.length = shape.length) && inB 0 60 base) = true
  case neg =>
    have hv := Lib.hid (show viewB base shape strides = false by unfold viewB; simp only [Bool.not_eq_true] at hb; simp only [hb, Bool.false_and])
    have hb := Lib.hid (show (shapeB shape && decide (strides.length = shape.length) && inB 0 60 base) = false by simpa using hb)
    go_enter Try.func67, Try.ntmps67
    go_wp2_with (go_at_call 123; refine (isShape_c shape _ _ lo (hsh0.out.ext ((Ext.refl _).alloc _))).mono ?_; rintro e w' ⟨rfl, rfl⟩)
    all_goals first
      | (go_ret; exact ⟨by rw [hv.out]; rfl, (Ext.refl _).alloc _⟩)
      | (exfalso; have := hb.out; simp [inB, *] at this; omega)
  have hbs := hb
  simp only [Bool.and_eq_true, decide_eq_true_eq, inB] at hbs
  obtain ⟨⟨h1, h2⟩, h3, h4⟩ := hbs
  have h1' := Lib.hid h1
  have hb := Lib.hid hb
  rw [h2] at hst0
  go_enter Try.func67, Try.ntmps67
  go_wp2_with (go_at_call 123; refine (isShape_c shape _ _ lo (hsh0.out.ext ((Ext.refl _).alloc _))).mono ?_; rintro e w' ⟨rfl, rfl⟩)
  clear h1
  go_loop [31] (fun i => ∃ k : Nat, k ≤ strides.length ∧ i = .int .i64 k ∧ (strides.take k).all (inB (-60) 60) = true) (fun i => strides.length - (intOf i).toNat)
  case atStart => exact ⟨0, Nat.zero_le _, rfl, rfl⟩
  case round =>
    obtain ⟨k, hk, rfl, hall0⟩ := hrel
    have hall := Lib.hid hall0
    clear hall0
    by_cases hlt : k < strides.length
    · obtain ⟨b, off, rfl, _, hcell, _⟩ := hc k hlt
      have hbl := qB hcell
      have hlt2 : k < shape.length := by omega
      clear hc hc2
      go_wp2_with fail
      all_goals first
        | (go_ret; exact ⟨by simp [viewB, all_no (inB (-60) 60) strides k hlt (by unfold inB; simp; omega)], (Ext.refl _).alloc _⟩)
        | (go_round; (case rel => exact ⟨k+1, by omega, by go_num, all_take _ strides k hlt hall.out (by unfold inB; simp; omega)⟩); (case measure => simp [intOf]; omega))
    · have hk' := Lib.hid (show k = strides.length by omega)
      have hin := shapeB_in h1'.out
      clear hc hc2
      go_wp2_with (first
        | (go_at_call 110; refine (offsetsOf_c base _ _ shape strides _ lo lo' (hsh0.out.ext ((Ext.refl _).alloc _)) (hst0.out.ext ((Ext.refl _).alloc _)) (by omega) hin.2.2.2.2 (by omega)).mono ?_; rintro e w1 ⟨v1, rfl, hi1, _, hx1⟩)
        | (go_at_call 124; refine (containsFunc_c _ _ outB _ _ _ _ hi1 (isViewF_c _)).mono ?_; rintro e w2 ⟨rfl, rfl⟩))
      go_ret
      exact ⟨by rw [viewB_end hb.out (by have := hall.out; rw [hk'.out] at this; simpa using this)]; rfl, (Ext.trans ((Ext.refl _).alloc _) hx1)⟩
theorem viewB_in {base : Int} {shape strides : List Int} (h : viewB base shape strides = true) :
    shapeB shape = true ∧ strides.length = shape.length ∧ (0 ≤ base ∧ base ≤ 60) ∧ (∀ s ∈ strides, -60 ≤ s ∧ s ≤ 60) ∧ (∀ x ∈ offsL base shape strides, 0 ≤ x ∧ x ≤ 59) := by
  simp only [viewB, inB, Bool.and_eq_true, decide_eq_true_eq, List.all_eq_true] at h
  exact ⟨h.1.1.1.1, h.1.1.1.2, h.1.1.2, h.1.2, h.2⟩

end Go.Proofs.Ytfbbnbpobojboaa

/- Walks of the reference's shapes and views. -/
namespace Go.Proofs.Ytfbbnbpobojboaa
open Go.RowKit
set_option linter.unusedVariables false
set_option maxRecDepth 100000

set_option maxHeartbeats 400000 in
theorem inRange_c (n lo hi : Int) (w : World) :
    Calls Try.prog 86 #[.int .i64 n, .int .i64 lo, .int .i64 hi] w fun e w' => e = .returned (.bool (inB lo hi n)) ∧ w = w' := by
  by_cases h : lo ≤ n
  · go_enter Try.func86, Try.ntmps86
    go_wp2_with fail
    go_ret
    exact ⟨by simp [inB, h], rfl⟩
  · have h' : n < lo := by omega
    go_enter Try.func86, Try.ntmps86
    go_wp2_with fail
    go_ret
    exact ⟨by simp [inB]; intro; omega, rfl⟩

set_option maxHeartbeats 400000 in
theorem allIn_c (xs : List Int) (v : Value) (l h : Int) (w : World) (lo : Nat) (hv : Ints w lo v xs) :
    Calls Try.prog 94 #[v, .int .i64 l, .int .i64 h] w fun e w' => e = .returned (.bool (xs.all (inB l h))) ∧ w = w' := by
  obtain ⟨a, cap, rfl, hlc, hcm, ⟨hlen, _⟩, hc⟩ := hv
  go_enter Try.func94, Try.ntmps94
  go_wp2_with fail
  go_loop [7] (fun i => ∃ k : Nat, k ≤ xs.length ∧ i = .int .i64 k ∧ (xs.take k).all (inB l h) = true) (fun i => xs.length - (intOf i).toNat)
  case atStart => exact ⟨0, Nat.zero_le _, rfl, rfl⟩
  case round =>
    obtain ⟨k, hk, rfl, hall0⟩ := hrel
    have hall := Lib.hid hall0
    clear hall0
    by_cases hlt : k < xs.length
    · obtain ⟨b, off, rfl, _, hcell, _⟩ := hc k hlt
      clear hc
      cases hin : inB l h xs[k]
      all_goals
        go_wp2_with (go_at_call 86; refine (inRange_c _ _ _ _).mono ?_; rintro e w' ⟨rfl, rfl⟩)
      · go_ret
        exact ⟨by rw [all_no _ xs k hlt hin]; rfl, rfl⟩
      · go_round
        case rel => exact ⟨k+1, by omega, by go_num, all_take _ xs k hlt hall.out hin⟩
        case measure => simp [intOf]; omega
    · obtain rfl : k = xs.length := by omega
      go_wp2_with fail
      go_ret
      exact ⟨by have := hall.out; rw [List.take_length] at this; rw [this]; rfl, rfl⟩

set_option maxHeartbeats 400000 in
theorem count_c (xs : List Int) (v : Value) (w : World) (lo : Nat) (hv : Ints w lo v xs) :
    Calls Try.prog 119 #[v] w fun e w' => e = .returned (.int .i64 (countL xs)) ∧ w = w' := by
  obtain ⟨a, cap, rfl, hlc, hcm, ⟨hlen, _⟩, hc⟩ := hv
  go_enter Try.func119, Try.ntmps119
  go_wp2
  go_loop [3, 4] (fun n i => ∃ k : Nat, k ≤ xs.length ∧ i = .int .i64 k ∧ n = .int .i64 (countL (xs.take k))) (fun _ i => xs.length - (intOf i).toNat)
  case atStart => exact ⟨0, Nat.zero_le _, rfl, rfl⟩
  case round =>
    obtain ⟨k, hk, rfl, rfl⟩ := hrel
    by_cases hlt : k < xs.length
    · obtain ⟨b, off, rfl, _, hcell, _⟩ := hc k hlt
      have hs := Lib.hid (countL_take xs k hlt)
      clear hc
      go_wp2
      go_round
      case rel => exact ⟨k+1, by omega, by go_num, by rw [hs.out]; simp [hlt]⟩
      case measure => simp [intOf]; omega
    · obtain rfl : k = xs.length := by omega
      go_wp2
      go_ret
      exact ⟨by simp, rfl⟩

set_option maxHeartbeats 400000 in
theorem unrank_c (xs : List Int) (v : Value) (k : Int) (w : World) (lo : Nat) (hv : Ints w lo v xs) (hk : 0 ≤ k) (hk2 : k ≤ 1000000) (hp : ∀ e ∈ xs, 1 ≤ e) :
    Calls Try.prog 154 #[v, .int .i64 k] w (PInts w (unrL xs k).1) := by
  obtain ⟨a, cap, rfl, hlc, hcm, ⟨hlen, _⟩, hc⟩ := hv
  obtain ⟨i0, hi, hz0, hz1, hz2⟩ := info_parts infoInt
  go_enter Try.func154, Try.ntmps154
  go_wp2_with (at_make; refine wpList_make_full _ rfl _ _ 22 rfl w.heap.size 3 i0 (.int .i64 0) 1 Try.underlying22 hi hz0 hz1 .i64 .i64 _ _ xs.length rfl rfl rfl rfl (by rw [hz2]; omega) (by unfold maxLen; omega) (Nat.le_refl _) ?_)
  intro w1 hown hgr
  have hx : Ext w w1 := (Ext.refl w).grown hgr (by simp)
  rw [made_ints] at hown
  clear hgr
  go_wp2
  go_loopw [1, 6] (fun kk i wr => ∃ j : Nat, j ≤ xs.length ∧ i = .int .i64 ((j : Int) - 1) ∧ kk = .int .i64 (unrL (xs.drop j) k).2 ∧
      wr.ownsRow w.heap.size 3 1 (.slice (some ⟨w.heap.size, 0, none⟩) xs.length xs.length) xs.length ((List.replicate j 0 ++ (unrL (xs.drop j) k).1).map (Value.int .i64)) ∧ Ext w wr)
    (fun _ i _ => (intOf i + 1).toNat)
  case atStart => exact ⟨xs.length, Nat.le_refl _, by go_num, by simp [unrL], by simpa [unrL] using hown, hx⟩
  case round =>
    obtain ⟨j, hj, rfl, rfl, ho, hxr⟩ := hrel
    cases j with
    | zero =>
      go_wp2
      go_ret
      refine PInts.mk (base := w.heap.size) ?_ (Nat.le_refl _) (by rw [unrL_len]; omega) hxr
      unfold OwnI; rw [unrL_len]; simpa using ho
    | succ m =>
      rw [show ((m + 1 : Nat) : Int) - 1 = (m : Int) by omega]
      obtain ⟨b, off, rfl, _, hcell, _⟩ := hc m (by omega)
      have hcell' := hxr.cell hcell
      have hbl := qB hcell
      obtain ⟨hoc, hof⟩ := own_cell ho m (by omega)
      have h1 : 1 ≤ xs[m]?.getD 0 := by
        rw [List.getElem?_eq_getElem (by omega)]; exact hp _ (List.getElem_mem ..)
      have h0 : 0 ≤ (unrL (xs.drop (m+1)) k).2 := unrL_pos _ _ hk (fun e he => hp e (List.mem_of_mem_drop he))
      have h0' : (unrL (xs.drop (m+1)) k).2 ≤ 1000000 := by
        have := unrL_le (xs.drop (m+1)) k hk (fun e he => hp e (List.mem_of_mem_drop he)); omega
      have hs := Lib.hid (unrL_drop xs k m (by omega))
      have hn := Lib.hid (own_set ho m ((unrL (xs.drop (m+1)) k).2 % xs.getD m 0) (by omega))
      clear hc ho
      go_wp2
      go_roundw
      case rel =>
        refine ⟨m, by omega, rfl, by rw [hs.out]; simp [unStep], ?_, hxr.setCell (Nat.le_refl _) _⟩
        have := hn.out
        rw [hs.out]
        rw [set_rep] at this
        simpa [unStep] using this
      case measure => simp [intOf]

set_option maxHeartbeats 400000 in
theorem offset_c (base : Int) (shv st ix : Value) (sts ixs : List Int) (w : World) (lo lo' : Nat) (hst : Ints w lo st sts) (hix : Ints w lo' ix ixs) (hl : ixs.length ≤ sts.length) :
    Calls Try.prog 153 #[.agg #[.int .i64 base, shv, st], ix] w fun e w' => e = .returned (.int .i64 (dotL base ixs sts)) ∧ Ext w w' := by
  obtain ⟨a, cap, rfl, hlc, hcm, ⟨hlen, _⟩, hc⟩ := hst
  obtain ⟨a2, cap2, rfl, hlc2, hcm2, ⟨hlen2, _⟩, hc2⟩ := hix
  go_enter Try.func153, Try.ntmps153
  go_wp2
  go_loopw [5, 6] (fun n i wr => ∃ k m : Nat, k ≤ ixs.length ∧ i = .int .i64 k ∧ n = .int .i64 (dotL base (ixs.take k) sts) ∧ wr = (w.alloc (.cells #[.int .i64 base, shv, .slice a sts.length cap] 36)).drewN m) (fun _ i _ => ixs.length - (intOf i).toNat)
  case atStart => exact ⟨0, 0, Nat.zero_le _, rfl, rfl, rfl⟩
  case round =>
    obtain ⟨k, m, hk, rfl, rfl, rfl⟩ := hrel
    by_cases hlt : k < ixs.length
    · obtain ⟨b, off, rfl, _, hcell, _⟩ := hc k (by omega)
      obtain ⟨b2, off2, rfl, _, hcell2, _⟩ := hc2 k hlt
      have hbl := qB hcell
      have hbl2 := qB hcell2
      have hs := Lib.hid (dotL_take base ixs sts k hlt (by omega))
      have hk2 : k < sts.length := by omega
      have hk3 : (k : Int) < sts.length := by omega
      have hk4 : (k : Int) < ixs.length := by omega
      clear hc hc2
      go_wp2_with fail
      go_quiet (fail)
      go_wp2_with fail
      go_roundw
      case rel => exact ⟨k+1, _, by omega, by go_num, by rw [hs.out]; simp [hlt, hk2], rfl⟩
      case measure => simp [intOf]; omega
    · obtain rfl : k = ixs.length := by omega
      go_wp2
      go_ret
      exact ⟨by simp, ((Ext.refl _).alloc _).drewN _⟩

set_option maxHeartbeats 400000 in
theorem offsets_c (base : Int) (sh st : Value) (shape strides : List Int) (w : World) (lo lo' : Nat) (hsh : Ints w lo sh shape) (hst : Ints w lo' st strides)
    (hl : shape.length ≤ strides.length) (hp : 0 < countL shape → ∀ e ∈ shape, 1 ≤ e) (hcnt : countL shape ≤ 1000000) :
    Calls Try.prog 107 #[.agg #[.int .i64 base, sh, st]] w (PInts w (offsL base shape strides)) := by
  obtain ⟨i0, hi, hz0, hz1, hz2⟩ := info_parts infoInt
  go_enter Try.func107, Try.ntmps107
  go_wp2_with fail
  go_loopw [3, 4] (fun v i wr => ∃ k : Nat, k ≤ (offsL base shape strides).length ∧ i = .int .i64 k ∧ OwnI wr (w.heap.size + 1) v ((offsL base shape strides).take k) ∧
      wr.cell? ⟨w.heap.size, 0, none⟩ = some (.int .i64 base) ∧ wr.cell? ⟨w.heap.size, 1, none⟩ = some sh ∧ wr.cell? ⟨w.heap.size, 2, none⟩ = some st ∧ Ext w wr ∧ w.heap.size < wr.heap.size)
    (fun _ i _ => (offsL base shape strides).length - (intOf i).toNat)
  case atStart =>
    refine ⟨0, Nat.zero_le _, rfl, ?_, by simp, by simp, by simp, (Ext.refl _).alloc _ |>.alloc _, by simp; omega⟩
    simpa using OwnI.lit0 (w.alloc (.cells #[.int .i64 base, sh, st] 36)) (w.heap.size + 1) (by simp)
  case round =>
    obtain ⟨k, hk, rfl, ho, c0, c1, c2, hx, hz⟩ := hrel
    have hlen : (offsL base shape strides).length = (countL shape).toNat := by simp [offsL]
    by_cases hlt : k < (offsL base shape strides).length
    · have hkc : (k : Int) < countL shape := by omega
      go_wp2_with (go_at_call 119; refine (count_c shape _ _ lo (hsh.ext hx)).mono ?_; rintro e w' ⟨rfl, rfl⟩)
      have hz2 : w.heap.size + 1 ≤ wr.heap.size := hz
      go_region_law (first
        | (go_simp; go_at_call 154; refine (unrank_c shape _ (k : Int) _ lo (hsh.ext (by exact hx.drew)) (by omega) (by omega) (hp (by omega))).mono ?_; rintro e w1 ⟨v1, rfl, hi1, _, hx1⟩; have hr1 : ∀ b o, b < wr.heap.size → w1.cell? ⟨b, o, none⟩ = wr.cell? ⟨b, o, none⟩ := hx1.rule)
        | (go_simp; go_at_call 153; refine (offset_c base _ _ _ strides _ _ lo' _ (hst.ext (by exact hx.trans (Ext.trans ((Ext.refl _).drew) hx1))) hi1 (by rw [unrL_len]; exact hl)).mono ?_; rintro e w2 ⟨rfl, hx2'⟩; have hs2 := hx2'.size; have hs1 := hx1.size; have hx2 : Ext wr w2 := (Ext.trans ((Ext.refl _).drew) hx1).trans hx2'; have hr2 : ∀ b o, b < wr.heap.size → w2.cell? ⟨b, o, none⟩ = wr.cell? ⟨b, o, none⟩ := hx2.rule)
        | (refine step_app rfl (.tmp 13) (.tmp 20) rfl rfl rfl ((ho.ext hx2).ext ((Ext.refl _).alloc _)) (Ints.one _ 0 _ (Nat.zero_le _)) (by simp; omega) (by simp at hs1; simp; omega) ?_; intro v' w3 ho3 hg3 hb3 _))
      all_goals
        have hxa := (hx.trans hx2).alloc (.cells #[.int .i64 (dotL base (unrL shape k).1 strides)] 3)
        have d0 := below_cell hb3 (b := w.heap.size) (by omega) (((Ext.alloc hx2 _).cell c0))
        have d1 := below_cell hb3 (b := w.heap.size) (by omega) (((Ext.alloc hx2 _).cell c1))
        have d2 := below_cell hb3 (b := w.heap.size) (by omega) (((Ext.alloc hx2 _).cell c2))
        have hz3 := hb3.size
        simp at hz3 hs1
        have ho4 : OwnI w3 (w.heap.size + 1) v' ((offsL base shape strides).take (k+1)) := by
          rw [List.take_succ_eq_append_getElem hlt]
          simpa [offsL] using ho3
        have hx3 := hxa.below hb3 (by omega)
        clear ho3 hg3 hb3 hxa hr1 hr2 hx2 hx2' hx1 ho
        go_wp2_with fail
        go_roundw
        case rel => exact ⟨k+1, by omega, by go_num, ho4, d0, d1, d2, hx3, by omega⟩
        case measure => simp [intOf]; omega
    · have hkk : k = (offsL base shape strides).length := by omega
      have hge : ¬ (k : Int) < countL shape := by omega
      rw [hkk, List.take_length] at ho
      have hI := Lib.hid ho
      clear ho hkk
      go_wp2_with (go_at_call 119; refine (count_c shape _ _ lo (hsh.ext hx)).mono ?_; rintro e w' ⟨rfl, rfl⟩)
      go_ret
      exact PInts.mk hI.out (Nat.le_succ _) (by omega) hx

set_option maxHeartbeats 400000 in
theorem validShape_c (xs : List Int) (v : Value) (w : World) (lo : Nat) (hv : Ints w lo v xs) :
    Calls Try.prog 118 #[v] w fun e w' => e = .returned (.bool (shapeB xs)) ∧ w = w' := by
  have hv0 := Lib.hid hv
  obtain ⟨a, cap, rfl, hlc, hcm, ⟨hlen, _⟩, hc⟩ := hv
  by_cases h4 : xs.length ≤ 4
  · have h4' : (xs.length : Int) ≤ 4 := by omega
    cases hall : xs.all (inB 0 60)
    all_goals
      go_enter Try.func118, Try.ntmps118
      go_wp2_with (first
        | (go_at_call 94; refine (allIn_c xs _ _ _ _ lo hv0.out).mono ?_; rintro e w' ⟨rfl, rfl⟩)
        | (go_at_call 119; refine (count_c xs _ _ lo hv0.out).mono ?_; rintro e w' ⟨rfl, rfl⟩))
      go_ret
      exact ⟨by simp [shapeB, h4, hall], rfl⟩
  · have h4' : ¬ (xs.length : Int) ≤ 4 := by omega
    go_enter Try.func118, Try.ntmps118
    go_wp2_with fail
    go_ret
    exact ⟨by simp [shapeB, h4], rfl⟩

end Go.Proofs.Ytfbbnbpobojboaa

/- Walks of the reference's views: valid views. -/
namespace Go.Proofs.Ytfbbnbpobojboaa
open Go.RowKit
set_option linter.unusedVariables false
set_option maxRecDepth 100000

theorem offsL_zero {base : Int} {shape strides : List Int} (h : countL shape = 0) : offsL base shape strides = [] := by simp [offsL, h]

set_option maxHeartbeats 1000000 in
theorem validView_c (base : Int) (sh st : Value) (shape strides : List Int) (w : World) (lo lo' : Nat) (hsh : Ints w lo sh shape) (hst : Ints w lo' st strides) :
    Calls Try.prog 62 #[.agg #[.int .i64 base, sh, st]] w fun e w' => e = .returned (.bool (viewB base shape strides)) ∧ Ext w w' := by
  have hst0 := Lib.hid hst
  have hsh0 := Lib.hid hsh
  obtain ⟨a, cap, rfl, hlc, hcm, ⟨hlen, _⟩, hc⟩ := hst
  obtain ⟨a2, cap2, rfl, hlc2, hcm2, ⟨hlen2, _⟩, hc2⟩ := hsh
  clear hc hc2
  cases h1 : shapeB shape
  case false =>
    have hv := Lib.hid (show viewB base shape strides = false by simp [viewB, h1])
    go_enter Try.func62, Try.ntmps62
    go_wp2_with (go_at_call 118; refine (validShape_c shape _ _ lo (hsh0.out.ext ((Ext.refl _).alloc _))).mono ?_; rintro e w' ⟨rfl, rfl⟩)
    go_ret
    exact ⟨by rw [hv.out]; rfl, (Ext.refl _).alloc _⟩
  have hin := shapeB_in h1
  by_cases h2 : strides.length = shape.length
  case neg =>
    have hv := Lib.hid (show viewB base shape strides = false by simp [viewB, h2])
    have h2' : ((strides.length : Int) == (shape.length : Int)) = false := by simp; omega
    go_enter Try.func62, Try.ntmps62
    go_wp2_with (go_at_call 118; refine (validShape_c shape _ _ lo (hsh0.out.ext ((Ext.refl _).alloc _))).mono ?_; rintro e w' ⟨rfl, rfl⟩)
    go_ret
    exact ⟨by rw [hv.out]; rfl, (Ext.refl _).alloc _⟩
  rw [h2] at hst0
  cases h3 : strides.all (inB (-60) 60)
  case false =>
    have hv := Lib.hid (show viewB base shape strides = false by simp [viewB, h3])
    go_enter Try.func62, Try.ntmps62
    go_wp2_with (first
      | (go_at_call 118; refine (validShape_c shape _ _ lo (hsh0.out.ext ((Ext.refl _).alloc _))).mono ?_; rintro e w' ⟨rfl, rfl⟩)
      | (go_at_call 94; refine (allIn_c strides _ _ _ _ lo' (hst0.out.ext ((Ext.refl _).alloc _))).mono ?_; rintro e w' ⟨rfl, rfl⟩))
    go_ret
    exact ⟨by rw [hv.out]; rfl, (Ext.refl _).alloc _⟩
  cases h4 : inB 0 60 base
  case false =>
    have hv := Lib.hid (show viewB base shape strides = false by simp [viewB, h4])
    go_enter Try.func62, Try.ntmps62
    go_wp2_with (first
      | (go_at_call 118; refine (validShape_c shape _ _ lo (hsh0.out.ext ((Ext.refl _).alloc _))).mono ?_; rintro e w' ⟨rfl, rfl⟩)
      | (go_at_call 94; refine (allIn_c strides _ _ _ _ lo' (hst0.out.ext ((Ext.refl _).alloc _))).mono ?_; rintro e w' ⟨rfl, rfl⟩)
      | (go_at_call 86; refine (inRange_c _ _ _ _).mono ?_; rintro e w' ⟨rfl, rfl⟩))
    go_ret
    exact ⟨by rw [hv.out]; rfl, (Ext.refl _).alloc _⟩
  by_cases h5 : countL shape = 0
  case pos =>
    have hv := Lib.hid (show viewB base shape strides = true by simp [viewB, h1, h2, h3, h4, offsL_zero h5])
    clear hin
    go_enter Try.func62, Try.ntmps62
    go_wp2_with (first
      | (go_at_call 118; refine (validShape_c shape _ _ lo (hsh0.out.ext ((Ext.refl _).alloc _))).mono ?_; rintro e w' ⟨rfl, rfl⟩)
      | (go_at_call 94; refine (allIn_c strides _ _ _ _ lo' (hst0.out.ext ((Ext.refl _).alloc _))).mono ?_; rintro e w' ⟨rfl, rfl⟩)
      | (go_at_call 86; refine (inRange_c _ _ _ _).mono ?_; rintro e w' ⟨rfl, rfl⟩)
      | (go_at_call 119; refine (count_c shape _ _ lo (hsh0.out.ext ((Ext.refl _).alloc _))).mono ?_; rintro e w' ⟨rfl, rfl⟩))
    go_ret
    exact ⟨by rw [hv.out]; rfl, (Ext.refl _).alloc _⟩
  have hin' := Lib.hid hin
  clear hin
  have h5' : (countL shape == 0) = false := by simpa using h5
  clear h5
  cases h6 : (offsL base shape strides).all (inB 0 59)
  all_goals
    have hv := Lib.hid (show viewB base shape strides = (offsL base shape strides).all (inB 0 59) by simp [viewB, h1, h2, h3, h4])
    rw [h6] at hv
    go_enter Try.func62, Try.ntmps62
    go_wp2_with (first
      | (go_at_call 118; refine (validShape_c shape _ _ lo (hsh0.out.ext ((Ext.refl _).alloc _))).mono ?_; rintro e w' ⟨rfl, rfl⟩)
      | (go_at_call_of 94 cap; refine (allIn_c strides _ _ _ _ lo' (hst0.out.ext ((Ext.refl _).alloc _))).mono ?_; rintro e w' ⟨rfl, rfl⟩)
      | (go_at_call 86; refine (inRange_c _ _ _ _).mono ?_; rintro e w' ⟨rfl, rfl⟩)
      | (go_at_call 119; refine (count_c shape _ _ lo (hsh0.out.ext ((Ext.refl _).alloc _))).mono ?_; rintro e w' ⟨rfl, rfl⟩)
      | (go_at_call 107; refine (offsets_c base _ _ shape strides _ lo lo' (hsh0.out.ext ((Ext.refl _).alloc _)) (hst0.out.ext ((Ext.refl _).alloc _)) (by have := hin'.out; omega) hin'.out.2.2.2.2 (by have := hin'.out; omega)).mono ?_; rintro e w1 ⟨v1, rfl, hi1, _, hx1⟩)
      | (go_at_call 94; refine (allIn_c _ _ _ _ _ _ hi1).mono ?_; rintro e w' ⟨rfl, rfl⟩))
    go_ret
    exact ⟨by rw [hv.out]; rfl, Ext.trans ((Ext.refl _).alloc _) hx1⟩

end Go.Proofs.Ytfbbnbpobojboaa

/- Walks of the laws' own helpers on lists of ints and on views. -/
namespace Go.Proofs.Ytfbbnbpobojboaa
open Go.RowKit
set_option linter.unusedVariables false
set_option maxRecDepth 100000

/-- a slice of ints that came in -/
def Raw (w : World) (v : Value) (xs : List Int) : Prop :=
  ∃ a cap, v = .slice a xs.length cap ∧ (a = none → cap = 0) ∧
    ∀ i, i < xs.length → ∃ b off, a = some ⟨b, off, none⟩ ∧ w.cell? ⟨b, off + i, none⟩ = some (.int .i64 (xs.getD i 0))

theorem Raw.ext {w w' : World} {v : Value} {xs : List Int} (h : Raw w v xs) (hx : Ext w w') : Raw w' v xs := by
  obtain ⟨a, cap, hv, h1, h2⟩ := h
  refine ⟨a, cap, hv, h1, fun i hi => ?_⟩
  obtain ⟨b, off, ha, hc⟩ := h2 i hi
  exact ⟨b, off, ha, hx.cell hc⟩

def szN (left : Int) (n : Nat) : Int := if left < n then -1 else left - n

set_option maxHeartbeats 400000 in
theorem szIntS_c (a : Option Addr) (n cap : Nat) (left : Int) (w : World) (h0 : 0 ≤ left) (h1 : left ≤ 1048576) (hn : n ≤ maxLen) :
    Calls Try.prog 59 #[.slice a n cap, .int .i64 left] w fun e w' => e = .returned (.int .i64 (szN left n)) ∧ w = w' := by
  unfold maxLen at hn
  by_cases h : left < n
  · have h' : left - n < 0 := by omega
    go_enter Try.func59, Try.ntmps59
    go_wp2_with fail
    go_ret
    exact ⟨by simp [szN, h], rfl⟩
  · have h' : ¬ left - n < 0 := by omega
    go_enter Try.func59, Try.ntmps59
    go_wp2_with fail
    go_ret
    exact ⟨by unfold szN; rw [if_neg (by omega)]; rfl, rfl⟩

def szV (left : Int) (n m : Nat) : Int := if szN left n < 0 then -1 else szN (szN left n) m
theorem szN_ge (left : Int) (n : Nat) : -1 ≤ szN left n ∧ (0 ≤ left → szN left n ≤ left) ∧ (0 ≤ szN left n → (n : Int) ≤ left ∧ szN left n = left - n) := by unfold szN; split <;> omega

set_option maxHeartbeats 400000 in
theorem szView_c (base : Int) (a a2 : Option Addr) (n cap n2 cap2 : Nat) (left : Int) (w : World) (h0 : 0 ≤ left) (h1 : left ≤ 1048576) (hn : n ≤ maxLen) (hn2 : n2 ≤ maxLen) :
    Calls Try.prog 14 #[.agg #[.int .i64 base, .slice a n cap, .slice a2 n2 cap2], .int .i64 left] w fun e w' => e = .returned (.int .i64 (szV left n n2)) ∧ Ext w w' := by
  have g := szN_ge left n
  by_cases h : szN left n < 0
  · go_enter Try.func14, Try.ntmps14
    go_wp2_with (go_at_call 59; refine (szIntS_c a n cap left _ h0 h1 hn).mono ?_; rintro e w' ⟨rfl, rfl⟩)
    go_ret
    exact ⟨by simp [szV, h], (Ext.refl _).alloc _⟩
  · have g2 := szN_ge (szN left n) n2
    by_cases h' : szN (szN left n) n2 < 0
    all_goals
      go_enter Try.func14, Try.ntmps14
      go_wp2_with fail
      refine (szIntS_c a n cap left _ h0 h1 hn).mono ?_; rintro e w' ⟨rfl, rfl⟩
      go_wp2_with fail
      refine (szIntS_c a2 n2 cap2 _ _ (by omega) (by omega) hn2).mono ?_; rintro e w' ⟨rfl, rfl⟩
      go_wp2_with fail
      go_ret
      refine ⟨?_, (Ext.refl _).alloc _⟩
      unfold szV; rw [if_neg (by omega)]
    · have : szN (szN left n) n2 = -1 := by omega
      rw [this]; rfl
    · rfl

set_option maxHeartbeats 400000 in
theorem toIntS_c (xs : List Int) (v : Value) (w : World) (hv : Raw w v xs) (hn : xs.length ≤ 4194304) :
    Calls Try.prog 38 #[v] w (PInts w xs) := by
  obtain ⟨a, cap, rfl, _, hc⟩ := hv
  obtain ⟨i0, hi, hz0, hz1, hz2⟩ := info_parts infoInt
  go_enter Try.func38, Try.ntmps38
  go_wp2_with (at_make; refine wpList_make_full _ rfl _ _ 22 rfl w.heap.size 3 i0 (.int .i64 0) 1 Try.underlying22 hi hz0 hz1 .i64 .i64 _ _ xs.length rfl rfl rfl rfl (by rw [hz2]; omega) (by unfold maxLen; omega) (Nat.le_refl _) ?_)
  intro w1 hown hgr
  have hx : Ext w w1 := (Ext.refl w).grown hgr (by simp)
  rw [made_ints] at hown
  clear hgr
  go_wp2
  go_loopw [4] (fun i wr => ∃ k : Nat, k ≤ xs.length ∧ i = .int .i64 k ∧
      wr.ownsRow w.heap.size 3 1 (.slice (some ⟨w.heap.size, 0, none⟩) xs.length xs.length) xs.length ((xs.take k ++ List.replicate (xs.length - k) 0).map (Value.int .i64)) ∧ Ext w wr)
    (fun i _ => xs.length - (intOf i).toNat)
  case atStart => exact ⟨0, Nat.zero_le _, rfl, by simpa using hown, hx⟩
  case round =>
    obtain ⟨k, hk, rfl, ho, hxr⟩ := hrel
    by_cases hlt : k < xs.length
    · obtain ⟨b, off, rfl, hcell⟩ := hc k hlt
      have hcell' := hxr.cell hcell
      have hbl := qB hcell
      obtain ⟨hoc, hof⟩ := own_cell ho k (by omega)
      have hn := Lib.hid (own_set ho k (xs.getD k 0) (by omega))
      clear hc ho
      go_wp2
      go_roundw
      case rel =>
        refine ⟨k+1, by omega, by go_num, ?_, hxr.setCell (Nat.le_refl _) _⟩
        have := hn.out
        have e : (xs.take k ++ List.replicate (xs.length - k) 0).set k (xs.getD k 0) = xs.take (k+1) ++ List.replicate (xs.length - (k+1)) 0 := by
          obtain ⟨m, hm⟩ : ∃ m, xs.length - k = m + 1 := ⟨xs.length - k - 1, by omega⟩
          have hm' : xs.length - (k + 1) = m := by omega
          rw [List.take_succ_eq_append_getElem hlt, hm, hm', List.set_append_right _ _ (by simp; omega), List.append_assoc]
          congr 1
          rw [show k - (xs.take k).length = 0 by simp; omega]
          simp [List.replicate_succ, hlt]
        rw [e] at this
        simpa [hlt] using this
      case measure => simp [intOf]; omega
    · obtain rfl : k = xs.length := by omega
      go_wp2
      go_ret
      exact PInts.mk (by unfold OwnI; simpa using ho) (Nat.le_refl _) hn hxr

set_option maxHeartbeats 400000 in
theorem eqIntS_c (xs : List Int) (a b : Value) (w : World) (la lb : Nat) (ha : Ints w la a xs) (hb : Ints w lb b xs) :
    Calls Try.prog 40 #[a, b] w fun e w' => e = .returned (.bool true) ∧ ∃ n, w' = w.drewN n := by
  obtain ⟨a1, cap1, rfl, _, _, ⟨hlen, _⟩, hc1⟩ := ha
  obtain ⟨a2, cap2, rfl, _, _, ⟨_, _⟩, hc2⟩ := hb
  go_enter Try.func40, Try.ntmps40
  go_wp2
  go_loopw [5] (fun i wr => ∃ k m : Nat, k ≤ xs.length ∧ i = .int .i64 k ∧ wr = w.drewN m) (fun i _ => xs.length - (intOf i).toNat)
  case atStart => exact ⟨0, 0, Nat.zero_le _, rfl, rfl⟩
  case round =>
    obtain ⟨k, m, hk, rfl, rfl⟩ := hrel
    by_cases hlt : k < xs.length
    · obtain ⟨b1, off1, rfl, _, hcell1, _⟩ := hc1 k hlt
      obtain ⟨b2, off2, rfl, _, hcell2, _⟩ := hc2 k hlt
      have hk4 : (k : Int) < xs.length := by omega
      clear hc1 hc2
      go_wp2_with fail
      go_quiet (fail)
      go_wp2_with fail
      go_roundw
      case rel => exact ⟨k+1, _, by omega, by go_num, rfl⟩
      case measure => simp [intOf]; omega
    · obtain rfl : k = xs.length := by omega
      go_wp2
      go_ret
      exact ⟨rfl, m, rfl⟩

/-- k, k + 1, .. -/
def ksL (k : Int) (n : Nat) : List Int := (List.range n).map fun i : Nat => k + i
theorem ksL_len (k : Int) (n : Nat) : (ksL k n).length = n := by simp [ksL]
theorem ksL_get (k : Int) (n i : Nat) (h : i < n) : (ksL k n).getD i 0 = k + i := by simp [ksL, h]

theorem ksL_succ (k : Int) (n : Nat) : ksL k (n+1) = ksL k n ++ [k + n] := by simp [ksL, List.range_succ]
set_option maxHeartbeats 400000 in
theorem markIntS_c (xs : List Int) (v : Value) (k : Int) (w : World) (lo : Nat) (hv : OwnI w lo v xs) (hn : xs.length ≤ 4194304) (hk : 0 ≤ k) (hk2 : k ≤ 100000000) :
    Calls Try.prog 45 #[v, .int .i64 k] w fun e w' => e = .returned (.int .i64 (k + xs.length)) ∧ OwnI w' lo v (ksL k xs.length) ∧ w.grownBy w' v.ownBlock := by
  rcases hv.2 with ⟨rfl, h0⟩ | ⟨g, cap, cur, rfl, hb, hg, hnc, hcm, hcs, ht⟩
  · obtain rfl : xs = [] := List.eq_nil_of_length_eq_zero h0
    go_enter Try.func45, Try.ntmps45
    go_wp2
    go_loop [1, 5] (fun kk i => i = .int .i64 0 ∧ kk = .int .i64 k) (fun _ _ => 0)
    case atStart => exact ⟨rfl, rfl⟩
    case round =>
      obtain ⟨rfl, rfl⟩ := hrel
      go_wp2
      go_ret
      exact ⟨by simp, World.ownsRow_nil _ _ _ _, World.grownBy.refl _ _⟩
  · clear ht hg
    go_enter Try.func45, Try.ntmps45
    go_wp2
    go_loopw [1, 5] (fun kk i wr => ∃ j : Nat, j ≤ xs.length ∧ i = .int .i64 j ∧ kk = .int .i64 (k + j) ∧
        wr.ownsRow lo 3 1 (.slice (some ⟨g, 0, none⟩) xs.length cap) xs.length ((ksL k j ++ xs.drop j).map (Value.int .i64)) ∧ w.grownBy wr (some g)) (fun _ i _ => xs.length - (intOf i).toNat)
    case atStart => exact ⟨0, Nat.zero_le _, rfl, by simp, by simpa [ksL, OwnI] using hv, World.grownBy.refl _ _⟩
    case round =>
      obtain ⟨j, hj, rfl, rfl, ho, hgr⟩ := hrel
      by_cases hlt : j < xs.length
      · obtain ⟨hoc, hof⟩ := own_cell ho j (by omega)
        have hn1 := Lib.hid (own_set ho j (k + j) (by omega))
        have hgs := Lib.hid (hgr)
        clear ho hgr
        go_wp2
        go_roundw
        case rel =>
          refine ⟨j+1, by omega, by go_num, by go_num, ?_, ?_⟩
          · have := hn1.out
            have e : (ksL k j ++ xs.drop j).set j (k + j) = ksL k (j+1) ++ xs.drop (j+1) := by
              rw [List.set_append_right _ _ (by simp [ksL_len]), ksL_len, List.drop_eq_getElem_cons hlt, Nat.sub_self, List.set_cons_zero, ksL_succ, List.append_assoc]
              rfl
            rw [e] at this
            exact this
          · have hgs := hgs.out
            refine ⟨hgs.os, hgs.tape, hgs.output, by simpa using hgs.size, fun b hb hne => ?_⟩
            rw [Below.heap_setCell _ _ _ _ (by intro h; subst h; exact hne rfl)]
            exact hgs.block b hb hne
        case measure => simp [intOf]; omega
      · obtain rfl : j = xs.length := by omega
        go_wp2
        go_ret
        refine ⟨rfl, ?_, hgr⟩
        unfold OwnI; rw [ksL_len]; simpa using ho

set_option maxHeartbeats 400000 in
theorem heldIntS_c (n : Nat) (v : Value) (k : Int) (w : World) (lo : Nat) (hv : Ints w lo v (ksL k n)) (hk : 0 ≤ k) (hk2 : k ≤ 100000000) :
    Calls Try.prog 46 #[v, .int .i64 k] w fun e w' => e = .returned (.int .i64 (k + n)) ∧ w = w' := by
  obtain ⟨a, cap, rfl, hlc, hcm, ⟨hlen, _⟩, hc⟩ := hv
  rw [ksL_len] at *
  go_enter Try.func46, Try.ntmps46
  go_wp2
  go_loop [1, 5] (fun kk i => ∃ j : Nat, j ≤ n ∧ i = .int .i64 j ∧ kk = .int .i64 (k + j)) (fun _ i => n - (intOf i).toNat)
  case atStart => exact ⟨0, Nat.zero_le _, rfl, by simp⟩
  case round =>
    obtain ⟨j, hj, rfl, rfl⟩ := hrel
    by_cases hlt : j < n
    · obtain ⟨b, off, rfl, _, hcell, _⟩ := hc j hlt
      rw [ksL_get k n j hlt] at hcell
      clear hc
      go_wp2
      go_round
      case rel => exact ⟨j+1, by omega, by go_num, by go_num⟩
      case measure => simp [intOf]; omega
    · obtain rfl : j = n := by omega
      go_wp2
      go_ret
      exact ⟨rfl, rfl⟩

end Go.Proofs.Ytfbbnbpobojboaa

/- Walks: memories, fits, copies of lists and views. -/
namespace Go.Proofs.Ytfbbnbpobojboaa
open Go.RowKit
set_option linter.unusedVariables false
set_option maxRecDepth 100000

def memB (xs : List Int) : Bool := decide (xs.length ≤ 60) && xs.all (inB 0 255)

theorem isValue_c (x : Int) (w : World) : Calls Try.prog 136 #[.int .i64 x] w fun e w' => e = .returned (.bool (inB 0 255 x)) ∧ w = w' := by
  by_cases h : 0 ≤ x
  · go_enter Try.func136, Try.ntmps136
    go_wp2_with fail
    go_ret
    exact ⟨by simp [inB, h], rfl⟩
  · have h' : x < 0 := by omega
    go_enter Try.func136, Try.ntmps136
    go_wp2_with fail
    go_ret
    exact ⟨by simp [inB]; intro; omega, rfl⟩

theorem isMemoryF_c (w : World) : Asks 163 #[] w (fun x => !inB 0 255 x) := by
  refine ⟨⟨Try.f163, Try.func163, rfl, by decide +kernel⟩, fun x => ?_⟩
  rw [show (#[Value.int .i64 x] ++ #[]) = #[.int .i64 x] by simp]
  go_enter Try.func163, Try.ntmps163
  go_wp2_with (go_at_call 136; refine (isValue_c _ _).mono ?_; rintro e w' ⟨rfl, rfl⟩)
  go_ret
  exact ⟨rfl, rfl⟩

set_option maxHeartbeats 400000 in
theorem isMemory_c (xs : List Int) (v : Value) (w : World) (lo : Nat) (hv : Ints w lo v xs) :
    Calls Try.prog 122 #[v] w fun e w' => e = .returned (.bool (memB xs)) ∧ w = w' := by
  have hv0 := Lib.hid hv
  obtain ⟨a, cap, rfl, hlc, hcm, ⟨hlen, _⟩, hc⟩ := hv
  clear hc
  by_cases h4 : xs.length ≤ 60
  · have h4' : (xs.length : Int) ≤ 60 := by omega
    go_enter Try.func122, Try.ntmps122
    go_wp2_with (go_at_call 124; refine (containsFunc_c _ _ (fun x => !inB 0 255 x) _ _ _ _ hv0.out (isMemoryF_c _)).mono ?_; rintro e w' ⟨rfl, rfl⟩)
    go_ret
    exact ⟨by simp [memB, h4, List.any_eq_not_all_not], rfl⟩
  · have h4' : ¬ (xs.length : Int) ≤ 60 := by omega
    go_enter Try.func122, Try.ntmps122
    go_wp2_with fail
    go_ret
    exact ⟨by simp [memB, h4], rfl⟩

set_option maxHeartbeats 400000 in
theorem validMemory_c (xs : List Int) (v : Value) (w : World) (lo : Nat) (hv : Ints w lo v xs) :
    Calls Try.prog 117 #[v] w fun e w' => e = .returned (.bool (memB xs)) ∧ w = w' := by
  have hv0 := Lib.hid hv
  obtain ⟨a, cap, rfl, hlc, hcm, ⟨hlen, _⟩, hc⟩ := hv
  clear hc
  by_cases h4 : xs.length ≤ 60
  · have h4' : (xs.length : Int) ≤ 60 := by omega
    go_enter Try.func117, Try.ntmps117
    go_wp2_with (go_at_call 94; refine (allIn_c xs _ _ _ _ lo hv0.out).mono ?_; rintro e w' ⟨rfl, rfl⟩)
    go_ret
    exact ⟨by simp [memB, h4], rfl⟩
  · have h4' : ¬ (xs.length : Int) ≤ 60 := by omega
    go_enter Try.func117, Try.ntmps117
    go_wp2_with fail
    go_ret
    exact ⟨by simp [memB, h4], rfl⟩

/-- the view is one, and its cells are all less than n -/
def fitB (base : Int) (shape strides : List Int) (n : Int) : Bool := (offsL base shape strides).all (fun x => decide (x < n))

theorem fitsInF_c (w : World) (b : Nat) (n : Int) (hc : w.cell? ⟨b, 0, none⟩ = some (.int .i64 n)) : Asks 126 #[.pointer (some ⟨b, 0, none⟩)] w (fun x => decide (n ≤ x)) := by
  refine ⟨⟨Try.f126, Try.func126, rfl, by decide +kernel⟩, fun x => ?_⟩
  rw [show (#[Value.int .i64 x] ++ #[.pointer (some ⟨b, 0, none⟩)]) = #[.int .i64 x, .pointer (some ⟨b, 0, none⟩)] by simp]
  go_enter Try.func126, Try.ntmps126
  go_wp2_with fail
  go_ret
  exact ⟨rfl, rfl⟩

theorem fit_any (l : List Int) (n : Int) : (!l.any fun x => decide (n ≤ x)) = l.all fun x => decide (x < n) := by
  rw [List.not_any_eq_all_not]; congr 1; funext x; rw [Bool.eq_iff_iff]; simp

set_option maxHeartbeats 400000 in
theorem fitsIn_c (base : Int) (sh st : Value) (shape strides : List Int) (n : Int) (w : World) (lo lo' : Nat) (hsh : Ints w lo sh shape) (hst : Ints w lo' st strides) (hvb : viewB base shape strides = true) :
    Calls Try.prog 68 #[.agg #[.int .i64 base, sh, st], .int .i64 n] w fun e w' => e = .returned (.bool (fitB base shape strides n)) ∧ Ext w w' := by
  obtain ⟨h1, h2, _⟩ := viewB_in hvb
  have hin := Lib.hid (shapeB_in h1)
  clear hvb h1
  have h2 := Lib.hid h2
  go_enter Try.func68, Try.ntmps68
  go_wp2_with fail
  refine (offsetsOf_c base _ _ shape strides _ lo lo' (hsh.ext ((Ext.refl _).alloc _ |>.alloc _)) (hst.ext ((Ext.refl _).alloc _ |>.alloc _)) (by have := h2.out; omega) hin.out.2.2.2.2 (by have := hin.out; omega)).mono ?_
  rintro e w1 ⟨v1, rfl, hi1, _, hx1⟩
  have hcl : w1.cell? ⟨w.heap.size + 1, 0, none⟩ = some (.int .i64 n) := hx1.cell (by simp)
  go_wp2_with (go_at_call 124; refine (containsFunc_c _ _ _ _ _ _ _ hi1 (fitsInF_c _ _ n hcl)).mono ?_; rintro e w' ⟨rfl, rfl⟩)
  go_ret
  exact ⟨by unfold fitB; rw [← fit_any]; rfl, Ext.trans ((Ext.refl _).alloc _ |>.alloc _) hx1⟩

theorem fit_all {base : Int} {shape strides : List Int} (n : Int) (h : viewB base shape strides = true) : (offsL base shape strides).all (inB 0 (n - 1)) = fitB base shape strides n := by
  obtain ⟨_, _, _, _, h5⟩ := viewB_in h
  unfold fitB
  rw [Bool.eq_iff_iff]; simp only [List.all_eq_true, inB, decide_eq_true_eq]
  exact ⟨fun H x hx => by have := H x hx; omega, fun H x hx => by have := H x hx; have := h5 x hx; omega⟩

set_option maxHeartbeats 400000 in
theorem fits_c (base : Int) (sh st : Value) (shape strides : List Int) (n : Int) (w : World) (lo lo' : Nat) (hsh : Ints w lo sh shape) (hst : Ints w lo' st strides) (hvb : viewB base shape strides = true) (hn : 0 ≤ n) (hn2 : n ≤ 4194304) :
    Calls Try.prog 63 #[.agg #[.int .i64 base, sh, st], .int .i64 n] w fun e w' => e = .returned (.bool (fitB base shape strides n)) ∧ Ext w w' := by
  have hfa := Lib.hid (fit_all n hvb)
  obtain ⟨h1, h2, _⟩ := viewB_in hvb
  have hin := Lib.hid (shapeB_in h1)
  clear hvb h1
  have h2 := Lib.hid h2
  go_enter Try.func63, Try.ntmps63
  go_wp2_with fail
  refine (offsets_c base _ _ shape strides _ lo lo' (hsh.ext ((Ext.refl _).alloc _)) (hst.ext ((Ext.refl _).alloc _)) (by have := h2.out; omega) hin.out.2.2.2.2 (by have := hin.out; omega)).mono ?_
  rintro e w1 ⟨v1, rfl, hi1, _, hx1⟩
  go_wp2_with (go_at_call 94; refine (allIn_c _ _ _ _ _ _ hi1).mono ?_; rintro e w' ⟨rfl, rfl⟩)
  go_ret
  exact ⟨by rw [← hfa.out]; rfl, Ext.trans ((Ext.refl _).alloc _) hx1⟩

set_option maxHeartbeats 400000 in
theorem copyInts_c (xs : List Int) (v : Value) (w : World) (lo : Nat) (hv : Ints w lo v xs) :
    Calls Try.prog 133 #[v] w (PInts w xs) := by
  have hlen : xs.length ≤ 4194304 := by obtain ⟨_, _, _, _, _, ⟨h, _⟩, _⟩ := hv; exact h
  go_enter Try.func133, Try.ntmps133
  go_wp2_with (at_builtin; refine wpList_app rfl (.tmp 3) (.tmp 4) rfl rfl rfl (OwnI.lit0 w w.heap.size (Nat.le_refl _)) (hv.ext ((Ext.refl _).alloc _)) (by simpa using hlen) (by simp) ?_)
  intro v' w1 ho hg hb _
  have hx : Ext w w1 := ((Ext.refl w).alloc _).below hb (Nat.le_refl _)
  clear hg hb
  have ho := Lib.hid ho
  go_wp2
  go_ret
  exact PInts.mk ho.out (Nat.le_refl _) hlen hx

/-- a call hands back a new view -/
def PView (w : World) (base : Int) (shape strides : List Int) (e : Ending) (w' : World) : Prop :=
  ∃ sh st, e = .returned (.agg #[.int .i64 base, sh, st]) ∧ Ints w' w.heap.size sh shape ∧ Ints w' w.heap.size st strides ∧ OwnZ w' w.heap.size sh shape ∧ OwnZ w' w.heap.size st strides ∧
    (shape ≠ [] → strides ≠ [] → sh.ownBlock ≠ st.ownBlock) ∧ Ext w w'

theorem PView.mk {w w' : World} {base : Int} {shape strides : List Int} {v1 v2 : Value} {b1 b2 : Nat} (o1 : OwnZ w' b1 v1 shape) (o2 : OwnZ w' b2 v2 strides) (h1 : w.heap.size ≤ b1) (h2 : w.heap.size ≤ b2)
    (hd : shape ≠ [] → ∃ g, v1.ownBlock = some g ∧ g < b2) (l1 : shape.length ≤ 4194304) (l2 : strides.length ≤ 4194304) (hx : Ext w w') : PView w base shape strides (.returned (.agg #[.int .i64 base, v1, v2])) w' := by
  refine ⟨v1, v2, rfl, (o1.lower h1).ints l1, (o2.lower h2).ints l2, o1.lower h1, o2.lower h2, fun n1 n2 => ?_, hx⟩
  obtain ⟨g1, e1, t1⟩ := hd n1
  obtain ⟨g2, e2, t2, _⟩ := o2.lt n2
  rw [e1, e2]; simp; omega

theorem OwnZ.setCell_below {w : World} {base : Nat} {v : Value} {xs : List Int} (h : OwnZ w base v xs) {a : Addr} (ha : a.block < base) (u : Value) : OwnZ (w.setCell a u) base v xs :=
  h.imp id fun h => ownsRow_setCell_below h ha u

theorem copy_close {w w0 w1 w2 : World} {base : Int} {v1 v2 : Value} {shape strides : List Int} (hx0 : Ext w w0) (h1 : Ext w0 w1) (o1 : OwnZ w1 w0.heap.size v1 shape) (h2 : Ext w1 w2) (o2 : OwnZ w2 w1.heap.size v2 strides)
    (hz : w.heap.size + 1 < w0.heap.size) (l1 : shape.length ≤ 4194304) (l2 : strides.length ≤ 4194304) (a b c : Addr) (ha : a.block = w.heap.size + 1) (hb : b.block = w.heap.size + 1) (hc : c.block = w.heap.size + 1) (u v x : Value) :
    PView w base shape strides (.returned (.agg #[.int .i64 base, v1, v2])) (((w2.setCell a u).setCell b v).setCell c x) := by
  have z0 := hx0.size
  have z1 := h1.size
  have o1' := (((o1.ext h2).setCell_below (a := a) (by omega) u).setCell_below (a := b) (by omega) v).setCell_below (a := c) (by omega) x
  have o2' := ((o2.setCell_below (a := a) (by omega) u).setCell_below (a := b) (by omega) v).setCell_below (a := c) (by omega) x
  refine ⟨v1, v2, rfl, (o1'.lower (by omega)).ints l1, (o2'.lower (by omega)).ints l2, o1'.lower (by omega), o2'.lower (by omega), fun n1 n2 => ?_, ?_⟩
  · obtain ⟨g1, e1, _, t1⟩ := o1.lt n1
    obtain ⟨g2, e2, b2, _⟩ := o2.lt n2
    rw [e1, e2]; simp; omega
  · exact (((hx0.trans (h1.trans h2)).setCell (by omega) _).setCell (by omega) _).setCell (by omega) _

set_option maxHeartbeats 1000000 in
theorem copyView_c (base : Int) (sh st : Value) (shape strides : List Int) (w : World) (lo lo' : Nat) (hsh : Ints w lo sh shape) (hst : Ints w lo' st strides) :
    Calls Try.prog 70 #[.agg #[.int .i64 base, sh, st]] w (PView w base shape strides) := by
  have hl1 : shape.length ≤ 4194304 := by obtain ⟨_, _, _, _, _, ⟨h, _⟩, _⟩ := hsh; exact h
  have hl2 : strides.length ≤ 4194304 := by obtain ⟨_, _, _, _, _, ⟨h, _⟩, _⟩ := hst; exact h
  go_enter Try.func70, Try.ntmps70
  go_wp2_with fail
  have c0 : ((w.alloc (.cells #[.int .i64 base, sh, st] 36)).alloc (.cells #[.int .i64 0, .slice none 0 0, .slice none 0 0] 36)).cell? ⟨w.heap.size, 0, none⟩ = some (.int .i64 base) := by rw [World.cell?_alloc_lt _ _ _ (by simp)]; simp
  have c1 : ((w.alloc (.cells #[.int .i64 base, sh, st] 36)).alloc (.cells #[.int .i64 0, .slice none 0 0, .slice none 0 0] 36)).cell? ⟨w.heap.size, 1, none⟩ = some sh := by rw [World.cell?_alloc_lt _ _ _ (by simp)]; simp
  have c2 : ((w.alloc (.cells #[.int .i64 base, sh, st] 36)).alloc (.cells #[.int .i64 0, .slice none 0 0, .slice none 0 0] 36)).cell? ⟨w.heap.size, 2, none⟩ = some st := by rw [World.cell?_alloc_lt _ _ _ (by simp)]; simp
  have r0 : ∀ j : Nat, j < 3 → (∃ u, ((w.alloc (.cells #[.int .i64 base, sh, st] 36)).alloc (.cells #[.int .i64 0, .slice none 0 0, .slice none 0 0] 36)).cell? ⟨w.heap.size + 1, j, none⟩ = some u) ∧ ((w.alloc (.cells #[.int .i64 base, sh, st] 36)).alloc (.cells #[.int .i64 0, .slice none 0 0, .slice none 0 0] 36)).frozen? ⟨w.heap.size + 1, j, none⟩ = false := by
    intro j hj
    have e : w.heap.size + 1 = (w.alloc (.cells #[.int .i64 base, sh, st] 36)).heap.size := by simp
    rw [e]
    refine ⟨?_, by simp⟩
    rw [World.cell?_alloc_new]
    match j, hj with
    | 0, _ => exact ⟨_, rfl⟩
    | 1, _ => exact ⟨_, rfl⟩
    | 2, _ => exact ⟨_, rfl⟩
  have hx0 : Ext w ((w.alloc (.cells #[.int .i64 base, sh, st] 36)).alloc (.cells #[.int .i64 0, .slice none 0 0, .slice none 0 0] 36)) := ((Ext.refl _).alloc _).alloc _
  have hz0 : w.heap.size + 2 ≤ ((w.alloc (.cells #[.int .i64 base, sh, st] 36)).alloc (.cells #[.int .i64 0, .slice none 0 0, .slice none 0 0] 36)).heap.size := by simp
  revert c0 c1 c2 r0 hx0 hz0
  generalize (w.alloc (.cells #[.int .i64 base, sh, st] 36)).alloc (.cells #[.int .i64 0, .slice none 0 0, .slice none 0 0] 36) = w0
  intro c0 c1 c2 r0 hx0 hz0
  obtain ⟨⟨ua, ra⟩, fa⟩ := r0 0 (by omega)
  obtain ⟨⟨ub, rb⟩, fb⟩ := r0 1 (by omega)
  obtain ⟨⟨uc, rc⟩, fc⟩ := r0 2 (by omega)
  clear r0
  have hz1 : w.heap.size + 1 < w0.heap.size := by omega
  have hz2 : w.heap.size < w0.heap.size := by omega
  go_region_held3 (fun w' => w'.cell? ⟨w.heap.size, 0, none⟩ = some (.int .i64 base) ∧ w'.cell? ⟨w.heap.size, 1, none⟩ = some sh ∧ w'.cell? ⟨w.heap.size, 2, none⟩ = some st)
    (first
      | go_keep
      | exact ⟨X1.cell c0, X1.cell c1, X1.cell c2⟩
      | exact ⟨X2.cell c0, X2.cell c1, X2.cell c2⟩)
    (first
      | (refine step_app0 rfl (.tmp 5) (.tmp 7) _ rfl rfl rfl (hsh.ext (hx0.trans (by repeat (first | exact Ext.refl _ | assumption | apply Ext.drew | apply Ext.alloc)))) ?_; intro v1 w1 ho1 hx1 hb1; obtain ⟨p1, q1, s1, rfl⟩ := ho1.form; have X1 : Ext w0 w1 := Ext.trans (by repeat (first | exact Ext.refl _ | assumption | apply Ext.drew | apply Ext.alloc)) hx1; have R1 := X1.rule; have F1 := X1.frule)
      | (refine step_app0 rfl (.tmp 9) (.tmp 11) _ rfl rfl rfl (hst.ext (hx0.trans (by repeat (first | exact Ext.refl _ | assumption | apply Ext.drew | apply Ext.alloc)))) ?_; intro v2 w2 ho2 hx2 hb2; obtain ⟨p2, q2, s2, rfl⟩ := ho2.form; have X2 : Ext w0 w2 := Ext.trans (by repeat (first | exact Ext.refl _ | assumption | apply Ext.drew | apply Ext.alloc)) hx2; have R2 := X2.rule; have F2 := X2.frule))
  all_goals
    go_wp2_with fail
    refine bodyPost_ret (v := .agg #[.int .i64 base, .slice p1 q1 s1, .slice p2 q2 s2]) (by simp only [results, Try.results70]; go_simp) rfl ?_
    refine copy_close hx0 X1 (ho1.lower (by simp <;> omega)) (Ext.trans (by repeat (first | exact Ext.refl _ | apply Ext.drew | apply Ext.alloc)) hx2) (ho2.lower (by simp <;> omega)) hz1 hl1 hl2 _ _ _ rfl rfl rfl _ _ _

end Go.Proofs.Ytfbbnbpobojboaa

/- Walks of the laws' helpers on views: copies and comparisons. -/
namespace Go.Proofs.Ytfbbnbpobojboaa
open Go.RowKit
set_option linter.unusedVariables false
set_option maxRecDepth 100000

set_option maxHeartbeats 1000000 in
theorem toView_c (base : Int) (sh st : Value) (shape strides : List Int) (w : World) (hsh : Raw w sh shape) (hst : Raw w st strides) (hl1 : shape.length ≤ 4194304) (hl2 : strides.length ≤ 4194304) :
    Calls Try.prog 17 #[.agg #[.int .i64 base, sh, st]] w (PView w base shape strides) := by
  go_enter Try.func17, Try.ntmps17
  go_wp2_with fail
  refine (toIntS_c shape _ _ (hsh.ext qXo) hl1).mono ?_
  rintro e w1 ⟨v1, rfl, hi1, ho1, hx1⟩
  have R1 := hx1.rule
  have F1 := hx1.frule
  have X1 : Ext w w1 := Ext.trans qXo hx1
  have hz1 := hx1.size
  simp at hz1
  have hz1a : w.heap.size < w1.heap.size := by omega
  have hz1b : w.heap.size + 1 < w1.heap.size := by omega
  have hz1c : w.heap.size + 1 + 1 < w1.heap.size := by omega
  obtain ⟨a1, c1, rfl⟩ := hi1.form
  go_wp2_with fail
  refine (toIntS_c strides _ _ (hst.ext (X1.setCell (by simp; omega) _)) hl2).mono ?_
  rintro e w2 ⟨v2, rfl, hi2, ho2, hx2⟩
  have R2 := hx2.rule
  have F2 := hx2.frule
  have X2 : Ext w w2 := Ext.trans (X1.setCell (by simp; omega) _) hx2
  have hz2 := hx2.size
  simp at hz2
  have hz2a : w.heap.size < w2.heap.size := by omega
  have hz2b : w.heap.size + 1 < w2.heap.size := by omega
  have hz2c : w.heap.size + 1 + 1 < w2.heap.size := by omega
  obtain ⟨a2, c2, rfl⟩ := hi2.form
  go_wp2_with fail
  refine bodyPost_ret (v := .agg #[.int .i64 base, .slice a1 shape.length c1, .slice a2 strides.length c2]) (by simp only [results, Try.results17]; go_simp) rfl ?_
  have K1 : Chg w.heap.size (w.heap.size + 3) w1 (w1.setCell ⟨w.heap.size + 1 + 1, 1, none⟩ (.slice a1 shape.length c1)) := (Chg.refl _ _ _).setCell (by simp; omega) (by simp) _
  have o1 := ((ho1.lower (base' := w.heap.size + 3) (by simp)).chg K1 (Nat.le_refl _)).ext hx2
  have o2 := ho2.lower (base' := w1.heap.size) (by simp)
  have K2 : Chg w.heap.size (w.heap.size + 3) w2 ((((w2.setCell { block := w.heap.size + 1 + 1, off := 2 } (Value.slice a2 strides.length c2)).setCell { block := w.heap.size + 1, off := 0 } (Value.int IntKind.i64 base)).setCell { block := w.heap.size + 1, off := 1 } (Value.slice a1 shape.length c1)).setCell { block := w.heap.size + 1, off := 2 } (Value.slice a2 strides.length c2)) :=
    ((((Chg.refl _ _ _).setCell (by simp; omega) (by simp) _).setCell (by simp) (by simp) _).setCell (by simp) (by simp) _).setCell (by simp) (by simp) _
  refine PView.mk (o1.chg K2 (Nat.le_refl _)) (o2.chg K2 (by omega)) (by omega) (by omega) (fun hn => ?_) hl1 hl2 (X2.chg K2 (Nat.le_refl _))
  obtain ⟨g, e, _, hg⟩ := ho1.lt hn
  exact ⟨g, e, hg⟩

set_option maxHeartbeats 400000 in
theorem eqView_c (base : Int) (sh st sh2 st2 : Value) (shape strides : List Int) (w : World) (la lb lc ld : Nat) (hsh : Ints w la sh shape) (hst : Ints w lb st strides) (hsh2 : Ints w lc sh2 shape) (hst2 : Ints w ld st2 strides) :
    Calls Try.prog 20 #[.agg #[.int .i64 base, sh, st], .agg #[.int .i64 base, sh2, st2]] w fun e w' => e = .returned (.bool true) ∧ Ext w w' := by
  go_enter Try.func20, Try.ntmps20
  go_wp2_with fail
  refine (eqIntS_c shape _ _ _ la lc (hsh.ext qXo) (hsh2.ext qXo)).mono ?_
  rintro e w1 ⟨rfl, n1, rfl⟩
  go_wp2_with fail
  refine (eqIntS_c strides _ _ _ lb ld (hst.ext qXo) (hst2.ext qXo)).mono ?_
  rintro e w1 ⟨rfl, n2, rfl⟩
  go_wp2_with fail
  go_ret
  exact ⟨rfl, qXo⟩

end Go.Proofs.Ytfbbnbpobojboaa

/- Walks of the laws' marks on lists and on views. -/
namespace Go.Proofs.Ytfbbnbpobojboaa
open Go.RowKit
set_option linter.unusedVariables false
set_option maxRecDepth 100000

theorem OwnZ.nilOf {w : World} {w' : World} {lo lo' : Nat} {v : Value} (h : Ints w lo v []) : OwnZ w' lo' v [] := by
  obtain ⟨a, cap, rfl, h1, h2, h3, _⟩ := h
  exact .inl ⟨rfl, a, cap, rfl, h2, h3.2⟩

theorem OwnZ.keptG {w w' : World} {lo : Nat} {v : Value} {xs : List Int} {row : Option Nat} (h : OwnZ w lo v xs) (hl : xs.length ≤ 4194304) (hg : w.grownBy w' row) (hne : xs ≠ [] → v.ownBlock ≠ row) : OwnZ w' lo v xs := by
  by_cases hx : xs = []
  · subst hx; exact OwnZ.nilOf (h.ints hl)
  · rcases h with ⟨h, _⟩ | h
    · exact absurd h hx
    · exact .inr (h.kept hg (.inr (hne hx)))

set_option maxHeartbeats 400000 in
theorem markZ_c (xs : List Int) (v : Value) (k : Int) (w : World) (lo hi : Nat) (hv : OwnZ w lo v xs) (hb : xs ≠ [] → ∀ g, v.ownBlock = some g → g < hi) (hn : xs.length ≤ 4194304) (hk : 0 ≤ k) (hk2 : k ≤ 100000000) :
    Calls Try.prog 45 #[v, .int .i64 k] w fun e w' => e = .returned (.int .i64 (k + xs.length)) ∧ OwnZ w' lo v (ksL k xs.length) ∧ Chg lo hi w w' ∧ w.grownBy w' v.ownBlock ∧ (xs = [] → w = w') := by
  by_cases hx : xs = []
  · subst hx
    obtain ⟨a, c, rfl⟩ := (hv.ints hn).form
    go_enter Try.func45, Try.ntmps45
    go_wp2
    go_loop [1, 5] (fun kk i => i = .int .i64 0 ∧ kk = .int .i64 k) (fun _ _ => 0)
    case atStart => exact ⟨rfl, rfl⟩
    case round =>
      obtain ⟨rfl, rfl⟩ := hrel
      go_wp2
      go_ret
      exact ⟨by simp, hv, Chg.refl _ _ _, World.grownBy.refl _ _, rfl⟩
  · obtain ⟨g, hg0, hlo, hlt⟩ := hv.lt hx
    rcases hv with ⟨h, _⟩ | ho
    · exact absurd h hx
    · refine (markIntS_c xs v k w lo ho hn hk hk2).mono ?_
      rintro e w' ⟨rfl, ho', hg⟩
      have hgh := hb hx g hg0
      exact ⟨rfl, .inr ho', ⟨hg.os, hg.tape, hg.output, hg.size, fun b hb hd => hg.block b hb (by rw [hg0]; intro h; cases h; omega)⟩, hg, fun h => absurd h hx⟩

set_option maxHeartbeats 400000 in
theorem markView_c (b : Int) (u v : Value) (s t : List Int) (k : Int) (w : World) (lo hi : Nat) (hu : OwnZ w lo u s) (hv : OwnZ w lo v t) (hd : s ≠ [] → t ≠ [] → u.ownBlock ≠ v.ownBlock)
    (bu : s ≠ [] → ∀ g, u.ownBlock = some g → g < hi) (bv : t ≠ [] → ∀ g, v.ownBlock = some g → g < hi) (hw : hi ≤ w.heap.size) (n1 : s.length ≤ 4194304) (n2 : t.length ≤ 4194304) (hk : 0 ≤ k) (hk2 : k ≤ 10000000) :
    Calls Try.prog 22 #[.agg #[.int .i64 b, u, v], .int .i64 k] w fun e w' => e = .returned (.int .i64 (k + s.length + t.length)) ∧ OwnZ w' lo u (ksL k s.length) ∧ OwnZ w' lo v (ksL (k + s.length) t.length) ∧ Chg lo hi w w' := by
  have i2 := hv.ints n2
  have X0 : Ext w (w.alloc (.cells #[.int .i64 b, u, v] 36)) := qXo
  go_enter Try.func22, Try.ntmps22
  go_wp2_with fail
  refine (markZ_c s u k _ lo hi (hu.ext qXo) bu n1 hk (by omega)).mono ?_
  rintro e w1 ⟨rfl, o1, c1, g1, e1⟩
  have hv1 : OwnZ w1 lo v t := by
    by_cases hs : s = []
    · rw [← e1 hs]; exact hv.ext X0
    · exact (hv.ext X0).keptG n2 g1 (fun ht hE => hd hs ht hE.symm)
  have d0 : w1.cell? ⟨w.heap.size, 0, none⟩ = some (.int .i64 b) := c1.cell (.inr hw) (by simp)
  have d1 : w1.cell? ⟨w.heap.size, 1, none⟩ = some u := c1.cell (.inr hw) (by simp)
  have d2 : w1.cell? ⟨w.heap.size, 2, none⟩ = some v := c1.cell (.inr hw) (by simp)
  go_wp2_with fail
  refine (markZ_c t v _ _ lo hi hv1 bv n2 (by omega) (by omega)).mono ?_
  rintro e w2 ⟨rfl, o2, c2, g2, e2⟩
  have hu2 : OwnZ w2 lo u (ksL k s.length) := by
    by_cases ht : t = []
    · rw [← e2 ht]; exact o1
    · refine o1.keptG (by rw [ksL_len]; exact n1) g2 (fun hs hE => hd ?_ ht hE)
      rintro rfl; exact hs rfl
  clear d0 d1 d2 g1 g2
  go_wp2_with fail
  go_ret
  exact ⟨rfl, hu2, o2, ((Chg.refl _ _ _).ext X0).trans (c1.trans c2)⟩

set_option maxHeartbeats 400000 in
theorem heldView_c (b : Int) (u v : Value) (n m : Nat) (k : Int) (w : World) (lo lo' : Nat) (hu : Ints w lo u (ksL k n)) (hv : Ints w lo' v (ksL (k + n) m)) (n1 : n ≤ 4194304) (n2 : m ≤ 4194304) (hk : 0 ≤ k) (hk2 : k ≤ 10000000) :
    Calls Try.prog 26 #[.agg #[.int .i64 b, u, v], .int .i64 k] w fun e w' => e = .returned (.int .i64 (k + n + m)) ∧ Ext w w' := by
  go_enter Try.func26, Try.ntmps26
  go_wp2_with fail
  refine (heldIntS_c n u k _ lo (hu.ext qXo) hk (by omega)).mono ?_
  rintro e w' ⟨rfl, rfl⟩
  go_wp2_with fail
  refine (heldIntS_c m v (k + n) _ lo' (hv.ext qXo) (by omega) (by omega)).mono ?_
  rintro e w' ⟨rfl, rfl⟩
  go_wp2_with fail
  go_ret
  exact ⟨rfl, qXo⟩

end Go.Proofs.Ytfbbnbpobojboaa

/- The laws' helpers in the form that the laws' walks take; rows under marks. No condition. -/
namespace Go.Proofs.Ytfbbnbpobojboaa
open Go.RowKit
set_option linter.unusedVariables false

theorem Ext.size {w w' : World} (h : Ext w w') : w.heap.size ≤ w'.heap.size := Below.size h
theorem Ints.len {w : World} {lo : Nat} {v : Value} {xs : List Int} (h : Ints w lo v xs) : xs.length ≤ 4194304 := by obtain ⟨_, _, _, _, _, ⟨h, _⟩, _⟩ := h; exact h
theorem OwnZ.bound {w : World} {base : Nat} {v : Value} {xs : List Int} (h : OwnZ w base v xs) : xs ≠ [] → ∀ g, v.ownBlock = some g → g < w.heap.size := by
  intro hn g hg
  obtain ⟨g', e, _, hl⟩ := h.lt hn
  rw [e] at hg; cases hg; exact hl
theorem OwnZ.chgB {w w' : World} {lo hi base : Nat} {v : Value} {xs : List Int} (h : OwnZ w base v xs) (k : Chg lo hi w w') (hb : xs ≠ [] → ∀ g, v.ownBlock = some g → g < lo) : OwnZ w' base v xs := by
  rcases h with h | h
  · exact .inl h
  · by_cases hx : xs = []
    · subst hx
      obtain ⟨h1, h2⟩ := h
      rcases h2 with ⟨rfl, _⟩ | ⟨g, cap, cur, rfl, hg, hh, h3, h4, r⟩
      · exact .inl ⟨rfl, none, 0, rfl, by simp, fun _ => rfl⟩
      · exact .inl ⟨rfl, _, cap, rfl, h4, fun h => by cases h⟩
    · obtain ⟨h1, h2⟩ := h
      rcases h2 with h2 | ⟨g, cap, cur, rfl, hg, hh, r⟩
      · exact .inr ⟨h1, .inl h2⟩
      · exact .inr ⟨h1, .inr ⟨g, cap, cur, rfl, hg, (k.block g (Array.getElem?_eq_some_iff.1 hh).1 (.inl (hb hx g rfl))).trans hh, r⟩⟩
theorem eqIntS_x (xs : List Int) (a b : Value) (w : World) (la lb : Nat) (ha : Ints w la a xs) (hb : Ints w lb b xs) :
    Calls Try.prog 40 #[a, b] w fun e w' => e = .returned (.bool true) ∧ Ext w w' :=
  (eqIntS_c xs a b w la lb ha hb).mono fun _ _ ⟨h, n, hn⟩ => ⟨h, by subst hn; exact (Ext.refl _).drewN _⟩

theorem szV_ge {left : Int} {n m : Nat} (h0 : 0 ≤ left) (h : ¬ szV left n m < 0) : (n : Int) ≤ left ∧ (m : Int) ≤ left ∧ szV left n m = left - n - m := by
  unfold szV at h ⊢
  have g := szN_ge left n
  split at h
  · omega
  · rename_i h1
    rw [if_neg h1]
    have g2 := szN_ge (szN left n) m
    omega

end Go.Proofs.Ytfbbnbpobojboaa

/- What the arguments of a law read as, when they are opened: ints, lists of ints, views. -/
namespace Go.Proofs.Ytfbbnbpobojboaa
open Go.ChangeShapes Go.WideShapes Go.ChangeAt Go.RowKit Go.Joins
set_option linter.unusedVariables false
set_option maxRecDepth 100000

theorem own : ownKnob Try.prog.godebug = none := by kernel_rfl
theorem laidOut : laidOutB Try.prog = true := by kernel_rfl
theorem cellsInt : Try.prog.cellsOf 3 = 1 := by kernel_rfl

/-- a slice of ints that came in -/
def RawIn (w : World) (v : Value) (xs : List Int) : Prop := Raw w v xs ∧ xs.length ≤ maxLen

section
variable {H : Type} {enc : TypeId × Value → H} {w : World} {base : Nat} {spare : Nat → Bool} {held : Bool} {fuel : Nat}

theorem open_rawInts {v : Value} {x : DataW H × List MemPlace} (hf : DataW.trod enc Try.prog w base spare held fuel 22 [v] = some x) : ∃ xs, RawIn w v xs := by
  rcases open_ints Try.underlying22 Try.underlying3 cellsInt hf with ⟨hcs, _⟩ | ⟨a, l, c, zs, hcs, _, hl, hm, hz, _, hcell, hwz⟩
  · simp at hcs; subst hcs
    exact ⟨[], ⟨none, 0, rfl, fun _ => rfl, fun i hi => absurd hi (by simp)⟩, by simp⟩
  · simp at hcs; subst hcs
    have hlen : (zs.take l).length = l := by rw [List.length_take, hz]; split <;> omega
    refine ⟨zs.take l, ⟨some a, c, by rw [hlen], (fun h => by cases h), fun i hi => ?_⟩, by rw [hlen]; omega⟩
    have hi' : i < zs.length := by rw [List.length_take] at hi; omega
    have hc := hcell i hi'
    obtain ⟨b, off, spot⟩ := a
    have h0 := hcell 0 (by omega)
    have hspot : spot = none := by simpa [Addr.add] using World.cell?_spot h0
    subst hspot
    refine ⟨b, off, rfl, ?_⟩
    have e : (⟨b, off, none⟩ : Addr).add i = ⟨b, off + i, none⟩ := by unfold Addr.add; split <;> simp_all
    rw [e] at hc
    rw [hc]
    have hil : i < l := by rw [hlen] at hi; exact hi
    simp [hil]

theorem open_rawInt {v : Value} {x : DataW H × List MemPlace} (hf : DataW.trod enc Try.prog w base spare held fuel 3 [v] = some x) : ∃ n, v = .int .i64 n ∧ (Lit.int .i64 n).wf = true := by
  obtain ⟨n, hcs, _, hw⟩ := DataW.trod_int Try.underlying3 hf
  simp at hcs; exact ⟨n, hcs, hw⟩

/-- a view that came in -/
def ViewIn (w : World) (v : Value) (b : Int) (shape strides : List Int) : Prop := ∃ a cap a2 cap2, v = .agg #[.int .i64 b, .slice a shape.length cap, .slice a2 strides.length cap2] ∧ RawIn w (.slice a shape.length cap) shape ∧ RawIn w (.slice a2 strides.length cap2) strides

theorem RawIn.form {v : Value} {xs : List Int} (h : RawIn w v xs) : ∃ a cap, v = .slice a xs.length cap := by
  obtain ⟨⟨a, cap, hv, _⟩, _⟩ := h; exact ⟨a, cap, hv⟩

theorem open_view {r : Reach} {b0 : Nat} {v : Value} {d : DataW H} {p : List MemPlace} (hv : Value.okWide Try.prog w r b0 27 v) (h : DataW.Trod enc Try.prog w base spare held 27 v d p) :
    ∃ b shape strides, ViewIn w v b shape strides := by
  obtain ⟨v0, v1, v2, y0, y1, y2, n, rfl, _, _, h0, h1, h2⟩ := open_agg3 Try.underlying27 qKr qKr hv h
  obtain ⟨b, rfl, _⟩ := open_rawInt h0
  obtain ⟨xs, hx⟩ := open_rawInts h1
  obtain ⟨ys, hy⟩ := open_rawInts h2
  obtain ⟨a, cap, rfl⟩ := hx.form
  obtain ⟨a2, cap2, rfl⟩ := hy.form
  exact ⟨b, xs, ys, a, cap, a2, cap2, rfl, hx, hy⟩

end

end Go.Proofs.Ytfbbnbpobojboaa

/- What the joined form asks of the PROGRAM, whatever the function: each its own theorem. The head's long line of names is cut behind its third word first: read whole it outgrows the kernel's memory. -/
namespace Go.Proofs.Ytfbbnbpobojboaa.facts

theorem words_ne : ∀ l : List Char, wordsSigns l ≠ []
  | [] => by simp [wordsSigns]
  | c :: r => by
    unfold wordsSigns
    split
    · simp
    · simp
    · split <;> simp

theorem words_app (b : List Char) : ∀ a : List Char, wordsSigns (a ++ Char.ofNat 32 :: b) = wordsSigns a ++ wordsSigns b
  | [] => by rw [List.nil_append]; rfl
  | c :: r => by
    have ih := words_app b r
    by_cases h : c = Char.ofNat 32
    · subst h
      have e : ∀ l : List Char, wordsSigns (Char.ofNat 32 :: l) = [] :: wordsSigns l := fun l => rfl
      rw [List.cons_append, e, e, ih]; rfl
    · have e : ∀ l : List Char, wordsSigns (c :: l) = match wordsSigns l with | w :: ws => (c :: w) :: ws | [] => [[c]] := by
        intro l
        conv => lhs; unfold wordsSigns
        split
        · rename_i h1; cases h1
        · rename_i h1; cases h1; exact absurd rfl h
        · rename_i h1; cases h1; rfl
      rw [List.cons_append, e, e, ih]
      cases hr : wordsSigns r with
      | nil => exact absurd hr (words_ne r)
      | cons w ws => simp

theorem cut_at {l : List Char} (h : (l.drop 76).head? = some (Char.ofNat 32)) : l = l.take 76 ++ Char.ofNat 32 :: l.drop 77 := by
  have e := List.take_append_drop 76 l
  cases hd : l.drop 76 with
  | nil => rw [hd] at h; cases h
  | cons c r =>
    rw [hd] at h
    have hc : c = Char.ofNat 32 := Option.some.inj h
    have : l.drop 77 = r := by
      have := congrArg (List.drop 1) hd
      simpa [List.drop_drop] using this
    rw [this, ← hc, ← hd]; exact e.symm

set_option maxRecDepth 100000 in
theorem order : ∃ l, Try.checked.prog.initOrder = String.ofList l ∧ (l.drop 76).head? = some (Char.ofNat 32) ∧ ∀ W, behindMainWord (wordsSigns (l.take 76) ++ W) = "cut".toList :: W := by
  unfold Try.checked Try.prog
  refine ⟨_, rfl, ?_, ?_⟩
  · kernel_rfl
  · intro W; kernel_rfl

theorem behind_all : ∃ W, behindMainWord (wordsSigns Try.checked.prog.initOrder.toList) = "cut".toList :: W := by
  obtain ⟨l, e, h1, h2⟩ := order
  refine ⟨wordsSigns (l.drop 77), ?_⟩
  rw [e, String.toList_ofList, cut_at h1, words_app, ← cut_at h1]
  exact h2 _

theorem strip (W : List (List Char)) : stripLifts liftWords ("cut".toList :: W) = ([], "cut".toList :: W) := by kernel_rfl

theorem lifts : Try.checked.prog.headLifts = [] := by
  unfold Program.headLifts
  obtain ⟨W, e⟩ := behind_all
  rw [e, strip]
  kernel_rfl

theorem laysLater : Try.checked.prog.laysLater = false := by kernel_rfl
theorem bearsReflect : Try.checked.prog.bearsReflect = false := by kernel_rfl
theorem doorFits : Try.checked.prog.doorFits [] = true := by kernel_rfl

theorem mayEnter_of {P : Program} {W : List (List Char)} (e : behindMainWord (wordsSigns P.initOrder.toList) = "cut".toList :: W) (h1 : P.laysLater = false) (h2 : P.bearsReflect = false) (h3 : P.doorFits [] = true) : P.mayEnter = true := by
  unfold Program.mayEnter
  rw [e]
  simp only [strip, h1, h2, h3]
  kernel_rfl

theorem mayEnter : Try.checked.prog.mayEnter = true := by
  obtain ⟨W, e⟩ := behind_all
  exact mayEnter_of e laysLater bearsReflect doorFits

theorem liftsFinal_of {P : Program} {W : List (List Char)} (e : behindMainWord (wordsSigns P.initOrder.toList) = "cut".toList :: W) (h : P.headLifts = []) : P.liftsFinal = false := by
  unfold Program.liftsFinal
  rw [e, h]
  kernel_rfl

theorem liftsFinal : Try.checked.prog.liftsFinal = false := by
  obtain ⟨W, e⟩ := behind_all
  exact liftsFinal_of e lifts

theorem make_of {P : Program} {W : List (List Char)} (e : behindMainWord (wordsSigns P.initOrder.toList) = "cut".toList :: W) : P.make = some .cut := by
  unfold Program.make
  rw [e]
  kernel_rfl

theorem make : Try.checked.prog.make = some .cut := by
  obtain ⟨W, e⟩ := behind_all
  exact make_of e

theorem laid : laidOutB Try.checked.prog = true := by kernel_rfl
theorem mapped : mapsRowed Try.checked.prog = true := by kernel_rfl
theorem stops : Try.checked.prog.stops = [] := by kernel_rfl
theorem stopKnobs : Try.checked.prog.stopKnobs = [] := by kernel_rfl
theorem stopsHeard : Try.checked.prog.stopsHeard = true := by kernel_rfl
theorem plainKeys : Try.checked.prog.plainKeys = true := by kernel_rfl

set_option maxRecDepth 100000 in
theorem all {f : FuncId} {fn : Func} {s : ChangeSpec} {c : OpenClaim}
    (h1 : c.wf (OpenSpec.ofChange s) = true) (h2 : fn.params.all (Try.checked.prog.readableRec ·) = true) (h3 : namedTie Try.checked.prog c.named s.vars = true)
    (h4 : (c.stops == []) = true) (h5 : (c.knobs == []) = true)
    (h6 : (c.inPlace == Try.checked.prog.inPlace f) = true) (h7 : (c.unfollowed == Try.checked.prog.unfollowed f) = true) (h8 : (c.recurses == Try.checked.prog.recurses f) = true) (h9 : (c.named == Try.checked.prog.varsNamed f) = true)
    (h10 : (c.maps == (fn.params.toList ++ s.plain.varTypes Try.checked.prog).any (Try.checked.prog.mapsRec ·) && (c.ifaces == (fn.params.toList ++ s.plain.varTypes Try.checked.prog).any (Try.checked.prog.ifacesRec ·)) && (c.mapsOut == Try.checked.prog.mapsAmong fn.resultTypes.toList) &&
      (c.loops == (fn.params.toList ++ s.plain.varTypes Try.checked.prog).any (Try.checked.prog.loopsFrom ·)) && (c.wideKeys == (fn.params.toList ++ s.plain.varTypes Try.checked.prog ++ fn.resultTypes.toList).any (Try.checked.prog.wideKeysFrom ·))) = true)
    (h11 : (s.vars.all (Try.checked.prog.varReadable ·) && fn.resultTypes.all (fun t => Try.checked.prog.readableRec t && decide (t < Try.checked.prog.types.size)) && (c.ifacesOut == fn.resultTypes.toList.any (Try.checked.prog.ifacesRec ·)) && (c.loopsOut == fn.resultTypes.toList.any (Try.checked.prog.loopsFrom ·))) = true)
    (h12 : c.plainKeys = true) (h13 : c.shortTexts.isNone = true) (h14 : c.lifted = false) (h15 : c.make = .cut)
    (h16 : (c.kinds == (if c.domain.isEmpty then [] else fn.params.toList.map fun t => match Try.checked.prog.underlying t with | some (.int k) => some k | _ => none)) = true) (h17 : (c.pinned == c.pinnedBy) = true)
    (h18 : (c.veiled == (fn.params.toList ++ s.plain.varTypes Try.checked.prog ++ fn.resultTypes.toList).any (Try.checked.prog.veiledRec ·)) = true)
    (h19 : c.veiledFits Try.checked.prog fn.params.toList (fn.params.toList ++ s.plain.varTypes Try.checked.prog ++ fn.resultTypes.toList) = true) :
    joinedFacts Try.checked.prog f fn s c = true := by
  unfold joinedFacts
  simp only [Bool.and_eq_true] at h10 h11 ⊢
  obtain ⟨⟨⟨⟨a1, a2⟩, a3⟩, a4⟩, a5⟩ := h10
  obtain ⟨⟨⟨b1, b2⟩, b3⟩, b4⟩ := h11
  refine ⟨⟨⟨⟨⟨⟨⟨⟨⟨⟨⟨⟨⟨⟨⟨⟨⟨⟨⟨⟨⟨⟨⟨⟨⟨⟨⟨⟨⟨⟨⟨h1, laid⟩, mapped⟩, h2⟩, h3⟩, h4⟩, ?_⟩, h5⟩, ?_⟩, h6⟩, h7⟩, h8⟩, h9⟩, a1⟩, a2⟩, a3⟩, a4⟩, a5⟩, b1⟩, b2⟩, b3⟩, b4⟩, ?_⟩, h13⟩, stopsHeard⟩, mayEnter⟩, ?_⟩, ?_⟩, h16⟩, h17⟩, h18⟩, h19⟩
  · rw [stops]; rfl
  · rw [stopKnobs]; rfl
  · rw [plainKeys, h12]; rfl
  · rw [liftsFinal, h14]; rfl
  · rw [make, h15]; exact beq_self_eq_true _

end Go.Proofs.Ytfbbnbpobojboaa.facts
