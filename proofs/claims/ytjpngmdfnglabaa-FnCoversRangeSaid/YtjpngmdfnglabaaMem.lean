/- Words for memory: worlds that only grew, slices of ints that read as lists. Its conditions: none. -/
import Derived.Test.YtjpngmdfnglabaaProg
import Derived.WalkKit
import Derived.WalkSpells
import Derived.WalkLawsBesides
import Derived.BigQuiet
import Derived.Deep.QuietTactic
import Derived.Deep.RegionLaw
import Derived.Deep.AppendLies
import Derived.Deep.RegionHeld3
import Derived.Deep.DeepFit
import Derived.Lib.Hide
import Derived.Maps.AppendAt
namespace Go.Proofs.Ytjpngmdfnglabaa
open Go.RowKit

/-- what a call that writes nothing old leaves: the old blocks as they were -/
def Ext (w w' : World) : Prop := Below w.heap.size w w'

theorem Ext.refl (w : World) : Ext w w := Below.refl _ _
theorem Ext.trans {a b c : World} (h : Ext a b) (k : Ext b c) : Ext a c := Below.trans h (Below.mono k h.size)
theorem Ext.alloc {a w : World} (h : Ext a w) (o : Obj) : Ext a (w.alloc o) := Below.alloc h h.size o
theorem Ext.drew {a w : World} (h : Ext a w) : Ext a w.drew := Below.drew h
theorem Ext.drewN {a w : World} (h : Ext a w) (n : Nat) : Ext a (w.drewN n) := ⟨h.os, h.tape, h.output, h.size, h.block⟩
theorem Ext.setCell {a w : World} (h : Ext a w) {p : Addr} (hp : a.heap.size ≤ p.block) (u : Value) : Ext a (w.setCell p u) := Below.setCell h hp u
theorem Ext.grown {a w w' : World} {row : Option Nat} (h : Ext a w) (hg : w.grownBy w' row) (hr : ∀ k, row = some k → a.heap.size ≤ k) : Ext a w' := Below.grown h hg h.size hr
theorem Ext.cell {w w' : World} (h : Ext w w') {p : Addr} {v : Value} (hc : w.cell? p = some v) : w'.cell? p = some v :=
  (Below.cell h (World.block_lt_of_cell? _ _ hc)).trans hc
theorem Ext.rule {w w' : World} (h : Ext w w') : ∀ b o, b < w.heap.size → w'.cell? ⟨b, o, none⟩ = w.cell? ⟨b, o, none⟩ := fun b o hb => Below.cell (p := ⟨b, o, none⟩) h hb
theorem Ext.frule {w w' : World} (h : Ext w w') : ∀ b o, b < w.heap.size → w'.frozen? ⟨b, o, none⟩ = w.frozen? ⟨b, o, none⟩ := fun b o hb => Below.frozen (p := ⟨b, o, none⟩) h hb

/-- the slice value v reads as the ints xs; its cells lie in blocks from lo on, unfrozen -/
def Ints (w : World) (lo : Nat) (v : Value) (xs : List Int) : Prop :=
  ∃ a cap, v = .slice a xs.length cap ∧ xs.length ≤ cap ∧ cap ≤ maxLen ∧ (xs.length ≤ 4194304 ∧ (a = none → cap = 0)) ∧
    ∀ i, i < xs.length → ∃ b off, a = some ⟨b, off, none⟩ ∧ lo ≤ b ∧ w.cell? ⟨b, off + i, none⟩ = some (.int .i64 (xs.getD i 0)) ∧ w.frozen? ⟨b, off + i, none⟩ = false

theorem Ints.ext {w w' : World} {lo : Nat} {v : Value} {xs : List Int} (h : Ints w lo v xs) (hx : Ext w w') : Ints w' lo v xs := by
  obtain ⟨a, cap, hv, h1, h2, h3, h4⟩ := h
  refine ⟨a, cap, hv, h1, h2, h3, fun i hi => ?_⟩
  obtain ⟨b, off, ha, hl, hc, hf⟩ := h4 i hi
  exact ⟨b, off, ha, hl, hx.cell hc, (Below.frozen (p := ⟨b, off + i, none⟩) hx (World.block_lt_of_cell? _ _ hc)).trans hf⟩

theorem Ints.lower {w : World} {lo lo' : Nat} {v : Value} {xs : List Int} (h : Ints w lo v xs) (hl : lo' ≤ lo) : Ints w lo' v xs := by
  obtain ⟨a, cap, hv, h1, h2, h3, h4⟩ := h
  refine ⟨a, cap, hv, h1, h2, h3, fun i hi => ?_⟩
  obtain ⟨b, off, ha, hl', hc, hf⟩ := h4 i hi
  exact ⟨b, off, ha, by omega, hc, hf⟩

theorem Ints.nil (w : World) (lo cap : Nat) (a : Option Addr) (hc : cap ≤ maxLen) (ha : a = none → cap = 0) : Ints w lo (.slice a 0 cap) [] :=
  ⟨a, cap, rfl, by simp, hc, ⟨by simp, ha⟩, fun i hi => absurd hi (by simp)⟩

/-- an owned row of ints reads as its list -/
theorem Ints.of_own {w : World} {base E : Nat} {v : Value} {n : Nat} {xs : List Int} (h : w.ownsRow base E 1 v n (xs.map (Value.int .i64))) (hn : xs.length ≤ 4194304) : Ints w base v xs := by
  have hl : xs.length = n := by simpa using h.1
  subst hl
  rcases h.2 with ⟨rfl, h0⟩ | ⟨g, cap, cur, rfl, hb, hg, hnc, hcm, hcs, ht⟩
  · obtain rfl : xs = [] := List.eq_nil_of_length_eq_zero h0
    exact Ints.nil _ _ _ _ (by simp) (fun _ => rfl)
  · refine ⟨_, cap, rfl, hnc, hcm, ⟨hn, fun h => by cases h⟩, fun i hi => ⟨g, 0, rfl, hb, ?_, ?_⟩⟩
    · have := World.ownsRow.cells h (g := g) rfl i (.int .i64 (xs.getD i 0)) (by simp [hi])
      have e : (⟨g, 0, none⟩ : Addr).add i = ⟨g, 0 + i, none⟩ := by unfold Addr.add; split <;> simp_all
      rw [e] at this
      exact this
    · simpa using World.ownsRow.frozenAt h i

theorem infoInt : (Try.prog.info? 3).map (fun i => (i.zero, i.size, i.bytes)) = some (some (.int .i64 0), 1, 8) := by kernel_rfl

/-- a store into an owned row of ints -/
theorem own_set {w : World} {B E g cap n : Nat} {xs : List Int} (h : w.ownsRow B E 1 (.slice (some ⟨g, 0, none⟩) n cap) n (xs.map (Value.int .i64))) (k : Nat) (x : Int) (_hk : k < n) :
    (w.setCell ⟨g, k, none⟩ (.int .i64 x)).ownsRow B E 1 (.slice (some ⟨g, 0, none⟩) n cap) n ((xs.set k x).map (Value.int .i64)) := by
  have := (World.ownsRow.stored h k (.int .i64 x)).1
  rwa [List.map_set]

theorem own_len {w : World} {B E n : Nat} {v : Value} {xs : List Int} (h : w.ownsRow B E 1 v n (xs.map (Value.int .i64))) : xs.length = n := by simpa using h.1

theorem own_cell {w : World} {B E g cap n : Nat} {xs : List Int} (h : w.ownsRow B E 1 (.slice (some ⟨g, 0, none⟩) n cap) n (xs.map (Value.int .i64))) (k : Nat) (hk : k < n) :
    w.cell? ⟨g, k, none⟩ = some (.int .i64 (xs.getD k 0)) ∧ w.frozen? ⟨g, k, none⟩ = false := by
  refine ⟨?_, World.ownsRow.frozenAt h k⟩
  rw [World.ownsRow.cellAt h k (by omega)]
  have := own_len h
  simp [show k < xs.length by omega]

theorem made_ints (n : Nat) : (madeCells #[Value.int .i64 0] n).toList = (List.replicate n (0 : Int)).map (Value.int .i64) := by
  rw [toList_madeCells_one]; simp

theorem own_ext {w w' : World} {B E n : Nat} {v : Value} {xs : List Value} (h : w.ownsRow B E 1 v n xs) (hx : Ext w w') : w'.ownsRow B E 1 v n xs := by
  refine ⟨h.1, ?_⟩
  rcases h.2 with h2 | ⟨g, cap, cur, hv, hg, hh, r⟩
  · exact .inl h2
  · exact .inr ⟨g, cap, cur, hv, hg, (hx.block g (Array.getElem?_eq_some_iff.1 hh).1).trans hh, r⟩


/-- an owned row of ints -/
def OwnI (w : World) (base : Nat) (v : Value) (xs : List Int) : Prop := w.ownsRow base 3 1 v xs.length (xs.map (Value.int .i64))

theorem OwnI.ints {w : World} {base : Nat} {v : Value} {xs : List Int} (h : OwnI w base v xs) (hn : xs.length ≤ 4194304) : Ints w base v xs := Ints.of_own h hn
theorem OwnI.ext {w w' : World} {base : Nat} {v : Value} {xs : List Int} (h : OwnI w base v xs) (hx : Ext w w') : OwnI w' base v xs := own_ext h hx
theorem OwnI.lit0 (w : World) (base : Nat) (hb : base ≤ w.heap.size) : OwnI (w.alloc (.cells #[] 3)) base (.slice (some ⟨w.heap.size, 0, none⟩) 0 0) [] :=
  World.ownsRow_lit w #[] 0 hb (by simp) rfl
theorem OwnI.nil (w : World) (base : Nat) : OwnI w base (.slice none 0 0) [] := World.ownsRow_nil _ _ _ _

theorem OwnI.lower {w : World} {base base' : Nat} {v : Value} {xs : List Int} (h : OwnI w base v xs) (hb : base' ≤ base) : OwnI w base' v xs :=
  ⟨h.1, h.2.imp id fun ⟨g, cap, cur, hv, hg, r⟩ => ⟨g, cap, cur, hv, Nat.le_trans hb hg, r⟩⟩

/-- an owned row of ints, or nothing at all -/
def OwnZ (w : World) (base : Nat) (v : Value) (xs : List Int) : Prop := (xs = [] ∧ ∃ a cap, v = .slice a 0 cap ∧ cap ≤ maxLen ∧ (a = none → cap = 0)) ∨ OwnI w base v xs
theorem OwnI.z {w : World} {base : Nat} {v : Value} {xs : List Int} (h : OwnI w base v xs) : OwnZ w base v xs := .inr h
theorem OwnZ.lower {w : World} {base base' : Nat} {v : Value} {xs : List Int} (h : OwnZ w base v xs) (hb : base' ≤ base) : OwnZ w base' v xs := h.imp id (fun h => h.lower hb)
theorem OwnZ.ext {w w' : World} {base : Nat} {v : Value} {xs : List Int} (h : OwnZ w base v xs) (hx : Ext w w') : OwnZ w' base v xs := h.imp id (fun h => h.ext hx)
theorem OwnZ.ints {w : World} {base : Nat} {v : Value} {xs : List Int} (h : OwnZ w base v xs) (hn : xs.length ≤ 4194304) : Ints w base v xs := by
  rcases h with ⟨rfl, a, cap, rfl, hc, ha⟩ | h
  · exact Ints.nil _ _ _ _ hc ha
  · exact h.ints hn

/-- a call hands back a new slice of these ints -/
def PInts (w : World) (xs : List Int) (e : Ending) (w' : World) : Prop := ∃ v, e = .returned v ∧ Ints w' w.heap.size v xs ∧ OwnZ w' w.heap.size v xs ∧ Ext w w'
theorem PInts.mk {w w' : World} {base : Nat} {xs : List Int} {v : Value} (h : OwnI w' base v xs) (hb : w.heap.size ≤ base) (hn : xs.length ≤ 4194304) (hx : Ext w w') : PInts w xs (.returned v) w' :=
  ⟨v, rfl, (h.lower hb).ints hn, (h.lower hb).z, hx⟩
theorem PInts.mkz {w w' : World} {base : Nat} {xs : List Int} {v : Value} (h : OwnZ w' base v xs) (hb : w.heap.size ≤ base) (hn : xs.length ≤ 4194304) (hx : Ext w w') : PInts w xs (.returned v) w' :=
  ⟨v, rfl, (h.lower hb).ints hn, (h.lower hb), hx⟩

theorem below_grownR {w w' : World} {base E size n : Nat} {v : Value} {xs : List Value} (h : w.ownsRow base E size v n xs) (hg : w.grownBy w' v.ownBlock) (hb : base ≤ w.heap.size) : Below base w w' :=
  (Below.refl base w).grown hg hb fun k hk => (World.ownsRow.lt h k hk).1

/-- the cells that an append takes -/
def SrcR (w : World) (size : Nat) (src : Value) (m : Nat) (news : List Value) : Prop :=
  ∃ a cap, src = .slice a m cap ∧ (a = none → m = 0 ∧ cap = 0) ∧ (∀ ad, a = some ad → ∀ j u, news[j]? = some u → w.cell? (ad.add j) = some u) ∧ news.length = m * size ∧ ∀ u ∈ news, u.oneCell' = true

theorem Ints.src {w : World} {lo : Nat} {v : Value} {ys : List Int} (h : Ints w lo v ys) : SrcR w 1 v ys.length (ys.map (Value.int .i64)) := by
  obtain ⟨a, cap, rfl, h1, h2, ⟨_, h3⟩, h4⟩ := h
  refine ⟨a, cap, rfl, fun h => ⟨by have := h3 h; omega, h3 h⟩, ?_, by simp, by intro u hu; simp at hu; obtain ⟨x, _, rfl⟩ := hu; rfl⟩
  rintro ad rfl j u hu
  have hj : j < ys.length := by
    rcases Nat.lt_or_ge j ys.length with h | h
    · exact h
    · rw [List.getElem?_eq_none (by simpa using h)] at hu; cases hu
  obtain ⟨b, off, ha, _, hc, _⟩ := h4 j hj
  cases ha
  have e : (⟨b, off, none⟩ : Addr).add j = ⟨b, off + j, none⟩ := by unfold Addr.add; split <;> simp_all
  rw [e, hc]
  simp [hj] at hu ⊢
  exact hu

section
variable {T E size bytes : Nat} {z : Value} {w : World} {base n m : Nat} {v src : Value} {xs news : List Value}

theorem run_appR (hT : Try.prog.underlying T = some (.slice E)) (hI : (Try.prog.info? E).map (fun i => (i.zero, i.size, i.bytes)) = some (some z, size, bytes)) (hzs : z.cells.size = size) (hsz : 0 < size) (ty : TypeId)
    (h : w.ownsRow base E size v n xs) (hs : SrcR w size src m news) (h63 : n + m ≤ 4194304) (hbytes : (n + m) * bytes ≤ 140737488355328) (hb : base ≤ w.heap.size) :
    ∃ v' w', (Builtin.append_ #[T, T] ty #[v, src]).run Try.prog w = .ok v' w' ∧ w'.ownsRow base E size v' (n + m) (xs ++ news) ∧ w.grownBy w' v.ownBlock ∧ Below base w w' ∧ (v'.ownBlock = v.ownBlock ∨ v'.ownBlock = some w.heap.size) := by
  obtain ⟨i0, hi, hz0, hz1, hz2⟩ := info_parts hI
  obtain ⟨a, cap, rfl, h3, h4, h5, h6⟩ := hs
  cases a with
  | none =>
    obtain ⟨rfl, rfl⟩ := h3 rfl
    obtain rfl : news = [] := List.eq_nil_of_length_eq_zero (by omega)
    exact ⟨v, w, run_append_owned_none (P := Try.prog) w base _ ty E i0 size hT hi v _ _ h, by simpa using h, World.grownBy.refl _ _, Below.refl _ _, .inl rfl⟩
  | some ad =>
    obtain ⟨v', w', hr, ho, hg, _, h7⟩ := run_append_own_at (P := Try.prog) w base T ty E i0 z size bytes hT hi hz0 hz1 hz2 hzs hsz v n xs h ad m cap news h5 (h4 ad rfl) h6 (by unfold maxLen; omega) hbytes hb
    exact ⟨v', w', hr, ho, hg, below_grownR h hg hb, h7⟩

theorem wp_appR (hT : Try.prog.underlying T = some (.slice E)) (hI : (Try.prog.info? E).map (fun i => (i.zero, i.size, i.bytes)) = some (some z, size, bytes)) (hzs : z.cells.size = size) (hsz : 0 < size)
    {o : Oper} {a : Act} {K : Act → World → Prop} {Q : Exit → Act → World → Prop} (s x : Operand)
    (ho : o.op = .call { callee := .builtin .append, args := #[s, x], argTypes := #[T, T] })
    (hs : a.eval s = v) (hx : a.eval x = src) (h : w.ownsRow base E size v n xs) (hsrc : SrcR w size src m news) (h63 : n + m ≤ 4194304) (hbytes : (n + m) * bytes ≤ 140737488355328) (hb : base ≤ w.heap.size)
    (hK : ∀ v' w', w'.ownsRow base E size v' (n + m) (xs ++ news) → w.grownBy w' v.ownBlock → Below base w w' → (v'.ownBlock = v.ownBlock ∨ v'.ownBlock = some w.heap.size) → K (a.put o.dst v') w') : o.wp Try.prog a w K Q := by
  obtain ⟨v', w', hr, h1, h2, h3, h4⟩ := run_appR hT hI hzs hsz o.type h hsrc h63 hbytes hb
  unfold Oper.wp execOp
  simp only [ho, resolve, invoke, builtin, Sem.run_bind, Sem.run_pure, Result.andThen_ok, List.map_toArray, List.map_cons, List.map_nil, hs, hx, hr]
  exact hK v' w' h1 h2 h3 h4

theorem wpList_appR (hT : Try.prog.underlying T = some (.slice E)) (hI : (Try.prog.info? E).map (fun i => (i.zero, i.size, i.bytes)) = some (some z, size, bytes)) (hzs : z.cells.size = size) (hsz : 0 < size)
    {ops : Array Oper} {rest : List Oper} {o : Oper} {a : Act} {Q : Exit → Act → World → Prop} (hgd : o.guard = none) (s x : Operand)
    (ho : o.op = .call { callee := .builtin .append, args := #[s, x], argTypes := #[T, T] })
    (hs : a.eval s = v) (hx : a.eval x = src) (h : w.ownsRow base E size v n xs) (hsrc : SrcR w size src m news) (h63 : n + m ≤ 4194304) (hbytes : (n + m) * bytes ≤ 140737488355328) (hb : base ≤ w.heap.size)
    (hK : ∀ v' w', w'.ownsRow base E size v' (n + m) (xs ++ news) → w.grownBy w' v.ownBlock → Below base w w' → (v'.ownBlock = v.ownBlock ∨ v'.ownBlock = some w.heap.size) → wpList Try.prog ops Q rest (a.put o.dst v') w') : wpList Try.prog ops Q (o :: rest) a w :=
  wpList_plain hgd fun _ hK' => wp_appR hT hI hzs hsz s x ho hs hx h hsrc h63 hbytes hb fun v' w' h1 h2 h3 h4 => hK' _ _ (hK v' w' h1 h2 h3 h4)

theorem step_appR (hT : Try.prog.underlying T = some (.slice E)) (hI : (Try.prog.info? E).map (fun i => (i.zero, i.size, i.bytes)) = some (some z, size, bytes)) (hzs : z.cells.size = size) (hsz : 0 < size)
    {ops : Array Oper} {o : Oper} {a : Act} {K : Act → World → Prop} {Q : Exit → Act → World → Prop} {F : Prop} (hgd : o.guard = none) (s x : Operand)
    (ho : o.op = .call { callee := .builtin .append, args := #[s, x], argTypes := #[T, T] })
    (hs : a.eval s = v) (hx : a.eval x = src) (h : w.ownsRow base E size v n xs) (hsrc : SrcR w size src m news) (h63 : n + m ≤ 4194304) (hbytes : (n + m) * bytes ≤ 140737488355328) (hb : base ≤ w.heap.size)
    (hK : ∀ v' w', w'.ownsRow base E size v' (n + m) (xs ++ news) → w.grownBy w' v.ownBlock → Below base w w' → (v'.ownBlock = v.ownBlock ∨ v'.ownBlock = some w.heap.size) → K (a.put o.dst v') w') :
    if Region.wanted o (yielded ops a.tmps) = true then Oper.wp Try.prog o a w K Q else F := by
  have hw : Region.wanted o (yielded ops a.tmps) = true := by simp [Region.wanted, hgd]
  rw [if_pos hw]
  exact wp_appR hT hI hzs hsz s x ho hs hx h hsrc h63 hbytes hb hK
end

section
variable {w : World} {base lo : Nat} {v src : Value} {xs ys : List Int}
theorem OwnI.of_app {w' : World} {v' : Value} (h : w'.ownsRow base 3 1 v' (xs.length + ys.length) (xs.map (Value.int .i64) ++ ys.map (Value.int .i64))) : OwnI w' base v' (xs ++ ys) := by
  unfold OwnI; rw [List.length_append, List.map_append]; exact h

theorem wpList_app {ops : Array Oper} {rest : List Oper} {o : Oper} {a : Act} {Q : Exit → Act → World → Prop} (hgd : o.guard = none) (s x : Operand)
    (ho : o.op = .call { callee := .builtin .append, args := #[s, x], argTypes := #[29, 29] })
    (hs : a.eval s = v) (hx : a.eval x = src) (h : OwnI w base v xs) (hsrc : Ints w lo src ys) (hn : xs.length + ys.length ≤ 4194304) (hb : base ≤ w.heap.size)
    (hK : ∀ v' w', OwnI w' base v' (xs ++ ys) → w.grownBy w' v.ownBlock → Below base w w' → (v'.ownBlock = v.ownBlock ∨ v'.ownBlock = some w.heap.size) → wpList Try.prog ops Q rest (a.put o.dst v') w') : wpList Try.prog ops Q (o :: rest) a w :=
  wpList_appR Try.underlying29 infoInt rfl (by decide) hgd s x ho hs hx h hsrc.src hn (by omega) hb fun v' w' h1 => hK v' w' (OwnI.of_app h1)

theorem step_app {ops : Array Oper} {o : Oper} {a : Act} {K : Act → World → Prop} {Q : Exit → Act → World → Prop} {F : Prop} (hgd : o.guard = none) (s x : Operand)
    (ho : o.op = .call { callee := .builtin .append, args := #[s, x], argTypes := #[29, 29] })
    (hs : a.eval s = v) (hx : a.eval x = src) (h : OwnI w base v xs) (hsrc : Ints w lo src ys) (hn : xs.length + ys.length ≤ 4194304) (hb : base ≤ w.heap.size)
    (hK : ∀ v' w', OwnI w' base v' (xs ++ ys) → w.grownBy w' v.ownBlock → Below base w w' → (v'.ownBlock = v.ownBlock ∨ v'.ownBlock = some w.heap.size) → K (a.put o.dst v') w') :
    if Region.wanted o (yielded ops a.tmps) = true then Oper.wp Try.prog o a w K Q else F :=
  step_appR Try.underlying29 infoInt rfl (by decide) hgd s x ho hs hx h hsrc.src hn (by omega) hb fun v' w' h1 => hK v' w' (OwnI.of_app h1)

theorem OwnI.kept {w' : World} {row : Option Nat} (h : OwnI w base v xs) (hg : w.grownBy w' row) (hne : v.ownBlock = none ∨ v.ownBlock ≠ row) : OwnI w' base v xs := World.ownsRow.kept h hg hne
end

/-- the one cell that 'append(out, x)' lays first -/
theorem Ints.one (w : World) (lo : Nat) (x : Int) (hl : lo ≤ w.heap.size) : Ints (w.alloc (.cells #[.int .i64 x] 3)) lo (.slice (some ⟨w.heap.size, 0, none⟩) 1 1) [x] :=
  (OwnI.ints (World.ownsRow_lit w #[.int .i64 x] 1 hl (by decide) rfl : OwnI _ lo _ [x]) (by simp))

theorem Ext.below {a w w' : World} {B : Nat} (h : Ext a w) (k : Below B w w') (hB : a.heap.size ≤ B) : Ext a w' := Below.trans h (k.mono hB)
theorem below_cell {B : Nat} {w w' : World} (h : Below B w w') {b o : Nat} {v : Value} (hb : b < B) (hc : w.cell? ⟨b, o, none⟩ = some v) : w'.cell? ⟨b, o, none⟩ = some v :=
  (Below.cell (p := ⟨b, o, none⟩) h hb).trans hc

section
variable {w : World} {src : Value} {ys : List Int} {lo : Nat}
/-- 'append([]int{}, src...)': onto a slice without room -/
theorem run_app0 (ad : Addr) (ty : TypeId) (hs : Ints w lo src ys) :
    ∃ v' w', (Builtin.append_ #[29, 29] ty #[.slice (some ad) 0 0, src]).run Try.prog w = .ok v' w' ∧ OwnZ w' w.heap.size v' ys ∧ Ext w w' ∧ (ys ≠ [] → v'.ownBlock = some w.heap.size) := by
  obtain ⟨i0, hi, hz0, hz1, hz2⟩ := info_parts infoInt
  have hs' := hs
  obtain ⟨a, cap, rfl, h1, h2, ⟨h3', h3⟩, h4⟩ := hs
  by_cases he : ys = []
  · subst he
    refine ⟨.slice (some ad) 0 0, w, ?_, .inl ⟨rfl, some ad, 0, rfl, by simp, fun h => by cases h⟩, Ext.refl _, fun h => absurd rfl h⟩
    cases a with
    | none => simp [Builtin.append_, run_underlying Try.underlying29, sizeOf, typeInfo, hi, Builtin.lenOf, Builtin.firstCells, storeCells]
    | some x => simp [Builtin.append_, run_underlying Try.underlying29, sizeOf, typeInfo, hi, Builtin.lenOf, Builtin.firstCells, storeCells, loadCells, loadCellsFrom]
  · have hpos : 0 < ys.length := by cases ys <;> simp_all
    obtain ⟨b0, off0, rfl, _⟩ := h4 0 hpos
    obtain ⟨a', cap', hv, _, hat, hl, h1c⟩ := hs'.src
    cases hv
    have hr := run_append_grow (P := Try.prog) w 29 ty 3 i0 (.int .i64 0) Try.underlying29 hi hz0 ad 0 0 [] (by simp) (fun j u hu => by simp at hu) ⟨b0, off0, none⟩ ys.length cap (ys.map (Value.int .i64)) (by rw [hz1]; simp) (hat _ rfl) (by omega) (by omega) (growslice_fits (by omega) (by rw [hz2]; omega))
    refine ⟨_, _, hr, .inr ?_, ((Ext.refl w).drew).alloc _, fun _ => rfl⟩
    have hge := grownCap_ge w (0 + ys.length) 0 3
    have hcm : grownCap w (0 + ys.length) 0 3 ≤ maxLen := grownCap_le_maxLen w _ 0 _ (by unfold maxLen; omega)
    refine ⟨by simp, .inr ⟨w.heap.size, _, _, by simp, Nat.le_refl _, heap_alloc_new w.drew _, by simpa using hge, hcm, ?_, ?_⟩⟩
    · simp [size_zeroCells, Value.cells]; simp at hge; omega
    · simp

theorem step_app0 {ops : Array Oper} {o : Oper} {a : Act} {K : Act → World → Prop} {Q : Exit → Act → World → Prop} {F : Prop} (hgd : o.guard = none) (s x : Operand) (ad : Addr)
    (ho : o.op = .call { callee := .builtin .append, args := #[s, x], argTypes := #[29, 29] })
    (hs : a.eval s = .slice (some ad) 0 0) (hx : a.eval x = src) (hsrc : Ints w lo src ys)
    (hK : ∀ v' w', OwnZ w' w.heap.size v' ys → Ext w w' → (ys ≠ [] → v'.ownBlock = some w.heap.size) → K (a.put o.dst v') w') :
    if Region.wanted o (yielded ops a.tmps) = true then Oper.wp Try.prog o a w K Q else F := by
  have hw : Region.wanted o (yielded ops a.tmps) = true := by simp [Region.wanted, hgd]
  rw [if_pos hw]
  obtain ⟨v', w', hr, h1, h2, h3⟩ := run_app0 ad o.type hsrc
  unfold Oper.wp execOp
  simp only [ho, resolve, invoke, builtin, Sem.run_bind, Sem.run_pure, Result.andThen_ok, List.map_toArray, List.map_cons, List.map_nil, hs, hx, hr]
  exact hK v' w' h1 h2 h3

theorem wpList_app0 {ops : Array Oper} {rest : List Oper} {o : Oper} {a : Act} {Q : Exit → Act → World → Prop} (hgd : o.guard = none) (s x : Operand) (ad : Addr)
    (ho : o.op = .call { callee := .builtin .append, args := #[s, x], argTypes := #[29, 29] })
    (hs : a.eval s = .slice (some ad) 0 0) (hx : a.eval x = src) (hsrc : Ints w lo src ys)
    (hK : ∀ v' w', OwnZ w' w.heap.size v' ys → Ext w w' → (ys ≠ [] → v'.ownBlock = some w.heap.size) → wpList Try.prog ops Q rest (a.put o.dst v') w') : wpList Try.prog ops Q (o :: rest) a w := by
  refine wpList_plain hgd fun K hK' => ?_
  obtain ⟨v', w', hr, h1, h2, h3⟩ := run_app0 ad o.type hsrc
  unfold Oper.wp execOp
  simp only [ho, resolve, invoke, builtin, Sem.run_bind, Sem.run_pure, Result.andThen_ok, List.map_toArray, List.map_cons, List.map_nil, hs, hx, hr]
  exact hK' _ _ (hK v' w' h1 h2 h3)
end

theorem OwnZ.form {w : World} {base : Nat} {v : Value} {xs : List Int} (h : OwnZ w base v xs) : ∃ a n c, v = .slice a n c := by
  rcases h with ⟨_, a, cap, rfl, _⟩ | h
  · exact ⟨_, _, _, rfl⟩
  · rcases h.2 with ⟨rfl, _⟩ | ⟨g, cap, cur, rfl, _⟩ <;> exact ⟨_, _, _, rfl⟩
theorem Ints.form {w : World} {base : Nat} {v : Value} {xs : List Int} (h : Ints w base v xs) : ∃ a c, v = .slice a xs.length c := by
  obtain ⟨a, cap, rfl, _⟩ := h; exact ⟨_, _, rfl⟩

theorem quiet_left {P : Program} {f : FuncId} {args : Array Value} {w : World} {n : Nat} {v : Value}
    (h : Calls P f args (w.drewN n) fun e w' => e = .returned v ∧ w.drewN n = w') : Calls P f args (w.drewN n) fun e w'' => e = .returned v ∧ ∃ m, w'' = w.drewN m :=
  h.mono fun _ _ ⟨he, hm⟩ => ⟨he, n, hm.symm⟩
def Drawn (w w' : World) : Prop := ∃ m, w' = w.drewN m
theorem Drawn.refl (w : World) : Drawn w w := ⟨0, rfl⟩
theorem Drawn.drewN {a w : World} (h : Drawn a w) (n : Nat) : Drawn a (w.drewN n) := by obtain ⟨m, rfl⟩ := h; exact ⟨m + n, by rw [World.drewN_drewN]⟩
theorem Drawn.ext {a w : World} (h : Drawn a w) : Ext a w := by obtain ⟨m, rfl⟩ := h; exact (Ext.refl _).drewN _
theorem Ints.take {w : World} {lo : Nat} {a : Option Addr} {n c : Nat} {xs : List Int} (h : Ints w lo (.slice a n c) xs) (k : Nat) (hk : k ≤ n) : Ints w lo (.slice a k c) (xs.take k) := by
  obtain ⟨a', cap, hv, h1, h2, ⟨h3, h3'⟩, h4⟩ := h
  cases hv
  have hl : (xs.take k).length = k := by simp; omega
  refine ⟨a, c, by rw [hl], by omega, h2, ⟨by omega, h3'⟩, fun i hi => ?_⟩
  obtain ⟨b, off, ha, hb, hc, hf⟩ := h4 i (by omega)
  refine ⟨b, off, ha, hb, ?_, hf⟩
  rw [hc]; simp [show i < k by omega]

theorem OwnZ.lt {w : World} {base : Nat} {v : Value} {xs : List Int} (h : OwnZ w base v xs) (hn : xs ≠ []) : ∃ g, v.ownBlock = some g ∧ base ≤ g ∧ g < w.heap.size := by
  rcases h with ⟨h, _⟩ | h
  · exact absurd h hn
  · obtain ⟨g, cap, rfl, hb, hg⟩ := World.ownsRow.form h (by cases xs <;> simp_all)
    exact ⟨g, rfl, hb, hg⟩

/-- a slice that is only read, while another row grows -/
theorem Ints.keepG {w w' : World} {lo : Nat} {a : Option Addr} {n c : Nat} {xs : List Int} {row : Option Nat} (h : Ints w lo (.slice a n c) xs) (hg : w.grownBy w' row) (hne : ∀ b off, a = some ⟨b, off, none⟩ → xs ≠ [] → row ≠ some b) : Ints w' lo (.slice a n c) xs := by
  obtain ⟨a', cap, hv, h1, h2, h3, h4⟩ := h
  cases hv
  refine ⟨a, c, rfl, h1, h2, h3, fun i hi => ?_⟩
  obtain ⟨b, off, ha, hb, hc, hf⟩ := h4 i hi
  have hlt := World.block_lt_of_cell? _ _ hc
  have hn := hne b off ha (by intro h; subst h; simp at hi)
  exact ⟨b, off, ha, hb, (World.cell?_of_block (a := ⟨b, off + i, none⟩) (hg.block b hlt (Ne.symm hn))).trans hc, (World.frozen?_of_block (a := ⟨b, off + i, none⟩) (hg.block b hlt (Ne.symm hn))).trans hf⟩
/-- where such a slice lies -/
theorem Ints.blk {w : World} {lo : Nat} {a : Option Addr} {n c : Nat} {xs : List Int} (h : Ints w lo (.slice a n c) xs) (hn : xs ≠ []) : ∃ b off, a = some ⟨b, off, none⟩ ∧ lo ≤ b ∧ b < w.heap.size := by
  obtain ⟨a', cap, hv, h1, h2, h3, h4⟩ := h
  cases hv
  obtain ⟨b, off, ha, hb, hc, hf⟩ := h4 0 (by cases xs <;> simp_all)
  exact ⟨b, off, ha, hb, World.block_lt_of_cell? _ _ hc⟩

/-- only blocks from lo on, below hi, have turned -/
structure Chg (lo hi : Nat) (w w' : World) : Prop where
  os : w'.os = w.os
  tape : w'.tape = w.tape
  output : w'.output = w.output
  size : w.heap.size ≤ w'.heap.size
  block : ∀ k, k < w.heap.size → (k < lo ∨ hi ≤ k) → w'.heap[k]? = w.heap[k]?
theorem Chg.refl (lo hi : Nat) (w : World) : Chg lo hi w w := ⟨rfl, rfl, rfl, Nat.le_refl _, fun _ _ _ => rfl⟩
theorem Chg.trans {lo hi : Nat} {a b c : World} (h : Chg lo hi a b) (k : Chg lo hi b c) : Chg lo hi a c :=
  ⟨k.os.trans h.os, k.tape.trans h.tape, k.output.trans h.output, Nat.le_trans h.size k.size, fun i hi hd => (k.block i (Nat.lt_of_lt_of_le hi h.size) hd).trans (h.block i hi hd)⟩
theorem Chg.setCell {lo hi : Nat} {a w : World} (h : Chg lo hi a w) {p : Addr} (h1 : lo ≤ p.block) (h2 : p.block < hi) (u : Value) : Chg lo hi a (w.setCell p u) :=
  h.trans ⟨rfl, rfl, rfl, by simp, fun k hk hd => Below.heap_setCell _ _ _ _ (by omega)⟩
theorem Chg.ext {lo hi : Nat} {a w w' : World} (h : Chg lo hi a w) (k : Ext w w') : Chg lo hi a w' :=
  h.trans ⟨k.os, k.tape, k.output, k.size, fun i hi _ => k.block i hi⟩
theorem Chg.of_ext {lo hi : Nat} {a w : World} (k : Ext a w) : Chg lo hi a w := (Chg.refl _ _ _).ext k
theorem Chg.mono {lo hi lo' hi' : Nat} {a w : World} (h : Chg lo hi a w) (h1 : lo' ≤ lo) (h2 : hi ≤ hi') : Chg lo' hi' a w := ⟨h.os, h.tape, h.output, h.size, fun k hk hd => h.block k hk (by omega)⟩
theorem Ext.chg {lo hi : Nat} {a w w' : World} (h : Ext a w) (k : Chg lo hi w w') (hl : a.heap.size ≤ lo) : Ext a w' :=
  ⟨k.os.trans h.os, k.tape.trans h.tape, k.output.trans h.output, Nat.le_trans h.size k.size, fun i hi => (k.block i (Nat.lt_of_lt_of_le hi h.size) (.inl (by omega))).trans (h.block i hi)⟩
theorem OwnI.chg {lo hi : Nat} {w w' : World} {base : Nat} {v : Value} {xs : List Int} (h : OwnI w base v xs) (k : Chg lo hi w w') (hb : hi ≤ base) : OwnI w' base v xs := by
  refine ⟨h.1, ?_⟩
  rcases h.2 with h2 | ⟨g, cap, cur, hv, hg, hh, r⟩
  · exact .inl h2
  · exact .inr ⟨g, cap, cur, hv, hg, (k.block g (Array.getElem?_eq_some_iff.1 hh).1 (.inr (by omega))).trans hh, r⟩
theorem OwnZ.chg {lo hi : Nat} {w w' : World} {base : Nat} {v : Value} {xs : List Int} (h : OwnZ w base v xs) (k : Chg lo hi w w') (hb : hi ≤ base) : OwnZ w' base v xs := h.imp id fun h => h.chg k hb
theorem Ints.chg {lo hi : Nat} {w w' : World} {l : Nat} {v : Value} {xs : List Int} (h : Ints w l v xs) (k : Chg lo hi w w') (hb : hi ≤ l) : Ints w' l v xs := by
  obtain ⟨a, cap, hv, h1, h2, h3, h4⟩ := h
  refine ⟨a, cap, hv, h1, h2, h3, fun i hi' => ?_⟩
  obtain ⟨b, off, ha, hl, hc, hf⟩ := h4 i hi'
  have hlt := World.block_lt_of_cell? _ _ hc
  exact ⟨b, off, ha, hl, (World.cell?_of_block (a := ⟨b, off + i, none⟩) (k.block b hlt (.inr (by omega)))).trans hc, (World.frozen?_of_block (a := ⟨b, off + i, none⟩) (k.block b hlt (.inr (by omega)))).trans hf⟩
theorem Chg.cell {lo hi : Nat} {w w' : World} (k : Chg lo hi w w') {b o : Nat} {v : Value} (hd : b < lo ∨ hi ≤ b) (hc : w.cell? ⟨b, o, none⟩ = some v) : w'.cell? ⟨b, o, none⟩ = some v :=
  (World.cell?_of_block (a := ⟨b, o, none⟩) (k.block b (World.block_lt_of_cell? _ _ hc) hd)).trans hc

end Go.Proofs.Ytjpngmdfnglabaa
