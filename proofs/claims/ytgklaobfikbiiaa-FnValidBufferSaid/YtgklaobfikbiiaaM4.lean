/- Texts of these proofs put together: BufW, BufG, SvL, SvK, SvM, BufI, BufK, CpyA, BufL, LvK, LvL, LvN, BufH, BufN, BufM, BufY, BufJ, BufX, SliA, DelA, DelB, PureP. No condition. -/
import Derived.Test.YtgklaobfikbiiaaM3
import Derived.Test.YtgklaobfikbiiaaM2
import Derived.Test.YtgklaobfikbiiaaM1
import Derived.Laws.CopyOwn
set_option linter.unusedVariables false
set_option linter.unusedSimpArgs false
/- Walks of the laws' own helpers on buffers: marks are written. -/
namespace Go.Proofs.Ytgklaobfikbiiaa
open Go.RowKit
set_option linter.unusedVariables false
set_option maxRecDepth 100000

section
variable {w w' : World} {lo : Nat} {ev : Value} {es : List Exp} {R : Nat → Value}
theorem expAt_setS (es : List Exp) (i : Nat) (e : Exp) (hi : i < es.length) : expAt (es.set i e) i = e := by rw [expAt_set es i e i hi, if_pos rfl]
theorem ExpR.storeN {a n c : Nat} (h : ExpR w lo (.slice (some ⟨a, 0, none⟩) n c) es R) (hn : n = es.length) (i j : Nat) (hi : i < es.length) (hj : j < 5) (x : Value) (e : Exp) (hs : e.s = (expAt es i).s) (ht : e.t = (expAt es i).t)
    (he : (eCells (expAt es i) (R (2 * i)) (R (2 * i + 1))).set j x = eCells e (R (2 * i)) (R (2 * i + 1))) : ExpR (w.setCell ⟨a, i * 5 + j, none⟩ x) lo (.slice (some ⟨a, 0, none⟩) n c) (es.set i e) R := by
  subst hn; exact h.store i j hi hj x e hs ht he
/-- the parent and the base are written -/
theorem ExpR.mark2 {a n c : Nat} (h : ExpR w lo (.slice (some ⟨a, 0, none⟩) n c) es R) (hn : n = es.length) (i : Nat) (hi : i < es.length) (p b : Int) :
    ExpR ((w.setCell ⟨a, i * 5, none⟩ (.int .i64 p)).setCell ⟨a, i * 5 + 1, none⟩ (.int .i64 b)) lo (.slice (some ⟨a, 0, none⟩) n c) (es.set i ⟨p, b, (expAt es i).s, (expAt es i).t, (expAt es i).op⟩) R := by
  have r1 := h.storeN hn i 0 hi (by omega) (.int .i64 p) ⟨p, (expAt es i).b, (expAt es i).s, (expAt es i).t, (expAt es i).op⟩ rfl rfl rfl
  have e1 := expAt_setS es i ⟨p, (expAt es i).b, (expAt es i).s, (expAt es i).t, (expAt es i).op⟩ hi
  have r2 := r1.storeN (by simpa using hn) i 1 (by simpa using hi) (by omega) (.int .i64 b) ⟨p, b, (expAt es i).s, (expAt es i).t, (expAt es i).op⟩ (by rw [e1]) (by rw [e1]) (by rw [e1]; rfl)
  rw [List.set_set] at r2
  exact r2
/-- whether it is open is written -/
theorem ExpR.markO {a n c : Nat} (h : ExpR w lo (.slice (some ⟨a, 0, none⟩) n c) es R) (hn : n = es.length) (i : Nat) (hi : i < es.length) (o : Bool) :
    ExpR (w.setCell ⟨a, i * 5 + 4, none⟩ (.bool o)) lo (.slice (some ⟨a, 0, none⟩) n c) (es.set i ⟨(expAt es i).par, (expAt es i).b, (expAt es i).s, (expAt es i).t, o⟩) R :=
  h.storeN hn i 4 hi (by omega) (.bool o) _ rfl rfl rfl
theorem set_expAt (es : List Exp) (i : Nat) (hi : i < es.length) : es.set i (expAt es i) = es := by
  rw [expAt_get hi, List.set_getElem_self]
/-- the shape is written -/
theorem ExpR.markS (h : ExpR w lo ev es R) (i : Nat) (hi : i < es.length) (xs : List Int) (hl : xs.length = (expAt es i).s.length) (o : OwnZ w' lo (R (2 * i)) xs) (hg : w.grownBy w' (R (2 * i)).ownBlock) (he : (expAt es i).s = [] → w = w') :
    ExpR w' lo ev (es.set i ⟨(expAt es i).par, (expAt es i).b, xs, (expAt es i).t, (expAt es i).op⟩) R := by
  by_cases hs : (expAt es i).s = []
  · obtain rfl := he hs
    have : xs = [] := List.eq_nil_of_length_eq_zero (by rw [hl, hs]; rfl)
    have e : (⟨(expAt es i).par, (expAt es i).b, xs, (expAt es i).t, (expAt es i).op⟩ : Exp) = expAt es i := by rw [this]; conv => rhs; rw [show expAt es i = ⟨(expAt es i).par, (expAt es i).b, (expAt es i).s, (expAt es i).t, (expAt es i).op⟩ from rfl, hs]
    rw [e, set_expAt es i hi]
    exact h
  · have hr : rowAt es (2 * i) ≠ [] := by rw [rowAt_even]; exact hs
    have o2 := h.nest (2 * i + 1) (by omega)
    have l2 := h.lens (2 * i + 1) (by omega)
    have ap := h.apart (2 * i) (2 * i + 1) (by omega) (by omega) hr
    rw [rowAt_odd] at o2 l2 ap
    exact h.rowset i hi _ o (o2.keptG l2 hg (fun ht hh => ap ht hh.symm)) hl rfl rfl rfl rfl (2 * i) (.inl rfl) hr hg
/-- the strides are written -/
theorem ExpR.markT (h : ExpR w lo ev es R) (i : Nat) (hi : i < es.length) (xs : List Int) (hl : xs.length = (expAt es i).t.length) (o : OwnZ w' lo (R (2 * i + 1)) xs) (hg : w.grownBy w' (R (2 * i + 1)).ownBlock) (he : (expAt es i).t = [] → w = w') :
    ExpR w' lo ev (es.set i ⟨(expAt es i).par, (expAt es i).b, (expAt es i).s, xs, (expAt es i).op⟩) R := by
  by_cases hs : (expAt es i).t = []
  · obtain rfl := he hs
    have : xs = [] := List.eq_nil_of_length_eq_zero (by rw [hl, hs]; rfl)
    have e : (⟨(expAt es i).par, (expAt es i).b, (expAt es i).s, xs, (expAt es i).op⟩ : Exp) = expAt es i := by rw [this]; conv => rhs; rw [show expAt es i = ⟨(expAt es i).par, (expAt es i).b, (expAt es i).s, (expAt es i).t, (expAt es i).op⟩ from rfl, hs]
    rw [e, set_expAt es i hi]
    exact h
  · have hr : rowAt es (2 * i + 1) ≠ [] := by rw [rowAt_odd]; exact hs
    have o2 := h.nest (2 * i) (by omega)
    have l2 := h.lens (2 * i) (by omega)
    have ap := fun h1 => h.apart (2 * i) (2 * i + 1) (by omega) (by omega) h1 hr
    rw [rowAt_even] at o2 l2 ap
    exact h.rowset i hi _ (o2.keptG l2 hg (fun ht hh => ap ht hh)) o rfl hl rfl rfl rfl (2 * i + 1) (.inr rfl) hr hg
end
theorem grown_set (w : World) (a o : Nat) (x : Value) : w.grownBy (w.setCell ⟨a, o, none⟩ x) (some a) := by
  have hk : Chg a (a + 1) w (w.setCell ⟨a, o, none⟩ x) := Chg.setCell (p := ⟨a, o, none⟩) (Chg.refl _ _ _) (Nat.le_refl _) (Nat.lt_succ_self _) x
  exact ⟨hk.os, hk.tape, hk.output, hk.size, fun b hb hne => hk.block b hb (by
    rcases Nat.lt_or_ge b a with h | h
    · exact .inl h
    · exact .inr (by have : b ≠ a := fun h0 => hne (by rw [h0]); omega))⟩
/-- ints that lie elsewhere than exports -/
structure Aside (w : World) (lo : Nat) (ev : Value) (es : List Exp) (R : Nat → Value) (cv : Value) (xs : List Int) : Prop where
  own : OwnZ w lo cv xs
  len : xs.length ≤ 4194304
  row : xs ≠ [] → cv.ownBlock ≠ ev.ownBlock
  nest : ∀ p, p < 2 * es.length → rowAt es p ≠ [] → xs ≠ [] → (R p).ownBlock ≠ cv.ownBlock
theorem Aside.set {w : World} {lo a n c : Nat} {es : List Exp} {R : Nat → Value} {cv : Value} {xs : List Int} (h : Aside w lo (.slice (some ⟨a, 0, none⟩) n c) es R cv xs) (o : Nat) (x : Value) : Aside (w.setCell ⟨a, o, none⟩ x) lo (.slice (some ⟨a, 0, none⟩) n c) es R cv xs :=
  ⟨h.own.keptG h.len (grown_set w a o x) h.row, h.len, h.row, h.nest⟩
theorem Aside.kept {w w' : World} {lo : Nat} {ev : Value} {es : List Exp} {R : Nat → Value} {cv : Value} {xs : List Int} (h : Aside w lo ev es R cv xs) (p : Nat) (hp : p < 2 * es.length) (hg : w.grownBy w' (R p).ownBlock) (he : rowAt es p = [] → w = w') : Aside w' lo ev es R cv xs := by
  by_cases hr : rowAt es p = []
  · obtain rfl := he hr; exact h
  · exact ⟨h.own.keptG h.len hg (fun hx hh => h.nest p hp hr hx hh.symm), h.len, h.row, h.nest⟩
theorem Aside.ext {w w' : World} {lo : Nat} {ev : Value} {es : List Exp} {R : Nat → Value} {cv : Value} {xs : List Int} (h : Aside w lo ev es R cv xs) (hx : Ext w w') : Aside w' lo ev es R cv xs := ⟨h.own.ext hx, h.len, h.row, h.nest⟩
/-- all blocks of exports lie below hi -/
structure BelowE (hi : Nat) (ev : Value) (es : List Exp) (R : Nat → Value) : Prop where
  row : ∀ g, ev.ownBlock = some g → g < hi
  nest : ∀ p, p < 2 * es.length → rowAt es p ≠ [] → ∀ g, (R p).ownBlock = some g → g < hi
theorem ExpR.below {w : World} {lo : Nat} {ev : Value} {es : List Exp} {R : Nat → Value} (h : ExpR w lo ev es R) : BelowE w.heap.size ev es R :=
  ⟨fun g hg => (h.blk g hg).2, fun p hp hn g hg => (h.nest p hp).bound hn g hg⟩
theorem mixE_row (k : Int) (es : List Exp) (n i : Nat) (h : n ≤ i) (hn : n ≤ es.length) : rowAt (mixE k es n) (2 * i) = (expAt es i).s ∧ rowAt (mixE k es n) (2 * i + 1) = (expAt es i).t := by
  rw [rowAt_even, rowAt_odd, mixE_at k es n i hn, if_neg (by omega)]; exact ⟨rfl, rfl⟩

/-- all blocks of a buffer lie below hi -/
structure BelowB (hi : Nat) (cv ev : Value) (cells : List Int) (es : List Exp) (R : Nat → Value) : Prop where
  cel : cells ≠ [] → ∀ g, cv.ownBlock = some g → g < hi
  ex : BelowE hi ev es R
theorem BufR.below {w : World} {lo : Nat} {cv ev : Value} {cells : List Int} {es : List Exp} {R : Nat → Value} (h : BufR w lo cv ev cells es R) : BelowB w.heap.size cv ev cells es R := ⟨h.cel.bound, h.ex.below⟩
theorem ExpR.keptG {w w' : World} {lo : Nat} {ev : Value} {es : List Exp} {R : Nat → Value} {row : Option Nat} (h : ExpR w lo ev es R) (hg : w.grownBy w' row) (h1 : ev.ownBlock = none ∨ ev.ownBlock ≠ row) (h2 : ∀ p, p < 2 * es.length → rowAt es p ≠ [] → (R p).ownBlock ≠ row) : ExpR w' lo ev es R :=
  ⟨h.row.kept hg h1, fun p hp => (h.nest p hp).keptG (h.lens p hp) hg (h2 p hp), h.lens, h.apart, h.off⟩
end Go.Proofs.Ytgklaobfikbiiaa

/- Answers that are buffers: plain words and laws. No condition. -/
namespace Go.Proofs.Ytgklaobfikbiiaa
open Go.RowKit
set_option linter.unusedVariables false
set_option maxRecDepth 100000

/-- a buffer with a bool -/
abbrev BBool := List Int × List Exp × Bool
def noBuf : BBool := ([], [], false)
def PBX (w : World) (x : BBool) : Ending → World → Prop := PBufB w x.1 x.2.1 x.2.2
theorem PBX.no {w w' : World} {x : BBool} (h : x = noBuf) (hx : Ext w w') : PBX w x (.returned (.tuple #[.agg #[.slice none 0 0, .slice none 0 0], .bool false])) w' := by
  subst h; exact PBufB.no hx
theorem PBX.yes {w w' : World} {x : BBool} {cells : List Int} {es : List Exp} {cv ev : Value} {R : Nat → Value} (h : x = (cells, es, true)) (hb : BufR w' w.heap.size cv ev cells es R) (hx : Ext w w') :
    PBX w x (.returned (.tuple #[.agg #[cv, ev], .bool true])) w' := by
  subst h; exact ⟨cv, ev, R, rfl, hb, hx⟩
theorem pbx_eq {w w0 : World} {x : BBool} {B : List Int} {S : List Exp} {o : Bool} {f : Nat} {args : Array Value} (he : x = (B, S, o)) (h : Calls Try.prog f args w (PBX w0 x)) : Calls Try.prog f args w (PBufB w0 B S o) := by subst he; exact h
/-- a buffer of few numbers -/
structure SmallB (x : BBool) : Prop where
  cl : x.1.length ≤ 60
  el : x.2.1.length ≤ 9
  rows : ∀ i, i < x.2.1.length → (expAt x.2.1 i).s.length ≤ 4 ∧ (expAt x.2.1 i).t.length ≤ 4
theorem kE_le (k : Int) (es : List Exp) (n : Nat) (h : ∀ i, i < n → (expAt es i).s.length ≤ 4 ∧ (expAt es i).t.length ≤ 4) : kE k es n ≤ k + 11 * n := by
  induction n with
  | zero => simp [kE]
  | succ n ih =>
    have h1 := ih fun i hi => h i (by omega)
    have h2 := h n (by omega)
    unfold kE; omega
theorem kE_size (k : Int) (es : List Exp) (n : Nat) : kE k es n = k + 3 * n + sizeE es n := by
  induction n with
  | zero => simp [kE, sizeE]
  | succ n ih => unfold kE sizeE; rw [ih]; omega
theorem SmallB.kE {x : BBool} (h : SmallB x) : Go.Proofs.Ytgklaobfikbiiaa.kE (1 + x.1.length) x.2.1 x.2.1.length ≤ 100000000 := by
  have := kE_le (1 + x.1.length) x.2.1 x.2.1.length h.rows
  have := h.cl
  have := h.el
  omega
theorem SmallB.no {x : BBool} (h : x = noBuf) : SmallB x := by subst h; exact ⟨by simp [noBuf], by simp [noBuf], fun i hi => absurd hi (by simp [noBuf])⟩
theorem viewB_len {b : Int} {s t : List Int} (h : viewB b s t = true) : s.length ≤ 4 ∧ t.length ≤ 4 := by
  have h1 := viewB_in h
  have h2 := (shapeB_in h1.1).1
  have h3 := h1.2.1
  omega
theorem expsB_at {cells : List Int} {es : List Exp} {n : Nat} (h : expsB cells es n = true) (i : Nat) (hi : i < n) : expB cells es i = true := by
  unfold expsB at h
  rw [List.all_eq_true] at h
  exact h i (List.mem_range.2 hi)
theorem bufB_in {cells : List Int} {es : List Exp} (h : bufB cells es = true) : memB cells = true ∧ cells.length ≤ 60 ∧ es.length ≤ 8 ∧ ∀ i, i < es.length → expB cells es i = true := by
  unfold bufB at h
  simp only [Bool.and_eq_true, decide_eq_true_eq] at h
  have hm := h.1.1
  unfold memB at hm
  simp only [Bool.and_eq_true, decide_eq_true_eq] at hm
  exact ⟨h.1.1, hm.1, h.1.2, fun i hi => expsB_at h.2 i hi⟩
theorem expB_view {cells : List Int} {es : List Exp} {i : Nat} (h : expB cells es i = true) : viewB (expAt es i).b (expAt es i).s (expAt es i).t = true := by
  unfold expB at h
  simp only [Bool.and_eq_true] at h
  exact h.1.2
theorem expB_fit {cells : List Int} {es : List Exp} {i : Nat} (h : expB cells es i = true) (ho : (expAt es i).op = true) : fitB (expAt es i).b (expAt es i).s (expAt es i).t cells.length = true := by
  unfold expB at h
  simp only [Bool.and_eq_true, ho, Bool.not_true, Bool.false_or] at h
  exact h.2.1
theorem bufB_rows {cells : List Int} {es : List Exp} (h : bufB cells es = true) (i : Nat) (hi : i < es.length) : (expAt es i).s.length ≤ 4 ∧ (expAt es i).t.length ≤ 4 := viewB_len (expB_view ((bufB_in h).2.2.2 i hi))
theorem smallB_app {cells : List Int} {es : List Exp} (h : bufB cells es = true) (e : Exp) (hs : e.s.length ≤ 4) (ht : e.t.length ≤ 4) : SmallB (cells, es ++ [e], true) := by
  obtain ⟨-, h1, h2, -⟩ := bufB_in h
  refine ⟨h1, by simp; omega, fun i hi => ?_⟩
  simp only [List.length_append, List.length_singleton] at hi
  show (expAt (es ++ [e]) i).s.length ≤ 4 ∧ (expAt (es ++ [e]) i).t.length ≤ 4
  by_cases hq : i < es.length
  · rw [expAt_app1 hq]; exact bufB_rows h i hq
  · obtain rfl : i = es.length := by omega
    rw [expAt_app2]; exact ⟨hs, ht⟩
theorem smallB_cells {cells : List Int} {es : List Exp} (h : bufB cells es = true) (c2 : List Int) (hc : c2.length ≤ 60) : SmallB (c2, es, true) := by
  obtain ⟨-, h1, h2, -⟩ := bufB_in h
  exact ⟨hc, by show es.length ≤ 9; omega, fun i hi => bufB_rows h i hi⟩
theorem smallB_set {cells : List Int} {es : List Exp} (h : bufB cells es = true) (j : Nat) (hj : j < es.length) (e : Exp) (hs : e.s = (expAt es j).s) (ht : e.t = (expAt es j).t) : SmallB (cells, es.set j e, true) := by
  obtain ⟨-, h1, h2, -⟩ := bufB_in h
  refine ⟨h1, by simp; omega, fun i hi => ?_⟩
  simp only [List.length_set] at hi
  show (expAt (es.set j e) i).s.length ≤ 4 ∧ (expAt (es.set j e) i).t.length ≤ 4
  rw [expAt_set es j e i hj]
  split
  · rw [hs, ht]; exact bufB_rows h j hj
  · exact bufB_rows h i hi
theorem opB_in {es : List Exp} {i : Int} (h : opB es i = true) : 0 ≤ i ∧ i.toNat < es.length ∧ (expAt es i.toNat).op = true := by
  unfold opB inB at h
  simp only [Bool.and_eq_true, decide_eq_true_eq] at h
  exact ⟨h.1.1, by omega, h.2⟩
/-- an open export of a valid buffer can be seen -/
theorem open_holds {cells : List Int} {es : List Exp} {i : Int} (h : bufB cells es = true) (ho : opB es i = true) : holdB cells (expAt es i.toNat).b (expAt es i.toNat).s (expAt es i.toNat).t = true := by
  obtain ⟨h1, -, -, h2⟩ := bufB_in h
  obtain ⟨-, o1, o2⟩ := opB_in ho
  have h3 := h2 _ o1
  unfold holdB
  rw [h1, expB_view h3, expB_fit h3 o2]; rfl
/-- ExportView -/
def expA (cells : List Int) (es : List Exp) (b : Int) (s t : List Int) : BBool :=
  if bufB cells es && (viewB b s t && (fitB b s t cells.length && decide (es.length < 8))) then (cells, es ++ [⟨-1, b, s, t, true⟩], true) else noBuf
theorem expA_small (cells : List Int) (es : List Exp) (b : Int) (s t : List Int) : SmallB (expA cells es b s t) := by
  unfold expA
  split
  · rename_i h
    simp only [Bool.and_eq_true] at h
    obtain ⟨l1, l2⟩ := viewB_len h.2.1
    exact smallB_app h.1 _ l1 l2
  · exact SmallB.no rfl
/-- ReleaseExport -/
def relA (cells : List Int) (es : List Exp) (i : Int) : BBool :=
  if (bufB cells es && opB es i) && decide ((selL (kidP i) es es.length).length = 0) then (cells, es.set i.toNat { expAt es i.toNat with op := false }, true) else noBuf
theorem relA_small (cells : List Int) (es : List Exp) (i : Int) : SmallB (relA cells es i) := by
  unfold relA
  split
  · rename_i h
    simp only [Bool.and_eq_true] at h
    exact smallB_set h.1.1 _ (opB_in h.1.2).2.1 _ rfl rfl
  · exact SmallB.no rfl
/-- the first n numbers of a list, and 0 where there are none -/
def fitL (xs : List Int) (n : Nat) : List Int := xs.take n ++ List.replicate (n - xs.length) 0
theorem fitL_len (xs : List Int) (n : Nat) : (fitL xs n).length = n := by unfold fitL; simp; omega
/-- ResizeBuffer -/
def resA (cells : List Int) (es : List Exp) (n : Int) : BBool :=
  if bufB cells es && (inB 0 60 n && decide ((selL opP es es.length).length = 0)) then (fitL cells n.toNat, es, true) else noBuf
theorem resA_small (cells : List Int) (es : List Exp) (n : Int) : SmallB (resA cells es n) := by
  unfold resA
  split
  · rename_i h
    simp only [Bool.and_eq_true, inB, decide_eq_true_eq] at h
    exact smallB_cells h.1 _ (by rw [fitL_len]; omega)
  · exact SmallB.no rfl
/-- LoadExport -/
def loadX (cells : List Int) (es : List Exp) (i : Int) : List Int :=
  if bufB cells es && opB es i then loadL cells (expAt es i.toNat).b (expAt es i.toNat).s (expAt es i.toNat).t else []
end Go.Proofs.Ytgklaobfikbiiaa

/- Walks: NewView of the reference: an empty row of strides has no capacity. -/
namespace Go.Proofs.Ytgklaobfikbiiaa
open Go.RowKit
set_option linter.unusedVariables false
set_option maxRecDepth 100000

def PViewE (w : World) (b : Int) (s t : List Int) (e : Ending) (w' : World) : Prop := PView w b s t e w' ∧ (t = [] → ∃ b' u a, e = .returned (.agg #[b', u, .slice a 0 0]))
/-- strides of an empty shape: none, and no capacity -/
theorem PViewE.open {w w' : World} {b : Int} {s t : List Int} {e : Ending} (h : PViewE w b s t e w') : ∃ (p1 p2 : Option Addr) (n1 r1 n2 r2 : Nat), e = .returned (.agg #[.int .i64 b, .slice p1 n1 r1, .slice p2 n2 r2]) ∧ OwnZ w' w.heap.size (.slice p1 n1 r1) s ∧ OwnZ w' w.heap.size (.slice p2 n2 r2) t ∧
    (s ≠ [] → t ≠ [] → (Value.slice p1 n1 r1).ownBlock ≠ (Value.slice p2 n2 r2).ownBlock) ∧ (t = [] → n2 = 0 ∧ r2 = 0) ∧ Ext w w' := by
  obtain ⟨⟨sh, st, rfl, -, -, o1, o2, od, x⟩, hE⟩ := h
  obtain ⟨p1, n1, r1, rfl⟩ := o1.form
  obtain ⟨p2, n2, r2, rfl⟩ := o2.form
  refine ⟨p1, p2, n1, r1, n2, r2, rfl, o1, o2, od, fun ht => ?_, x⟩
  obtain ⟨b', u, a, h⟩ := hE ht
  simp at h
  exact ⟨h.2.2.2.1, h.2.2.2.2⟩

end Go.Proofs.Ytgklaobfikbiiaa

/- Walks: a drawn view. -/
namespace Go.Proofs.Ytgklaobfikbiiaa
open Go.RowKit
set_option linter.unusedVariables false
set_option maxRecDepth 100000


/-- a drawn view comes back -/
def GView (rb k : Nat) (w : World) (e : Ending) (w' : World) : Prop := ∃ (b : Int) (s t : List Int) (p1 p2 : Option Addr) (n1 r1 n2 r2 : Nat), e = .returned (.agg #[.int .i64 b, .slice p1 n1 r1, .slice p2 n2 r2]) ∧
  OwnZ w' w.heap.size (.slice p1 n1 r1) s ∧ OwnZ w' w.heap.size (.slice p2 n2 r2) t ∧ (s ≠ [] → t ≠ [] → (Value.slice p1 n1 r1).ownBlock ≠ (Value.slice p2 n2 r2).ownBlock) ∧ t.length = s.length ∧ (s.length ≤ 4 ∧ (s = [] → n2 = 0 ∧ r2 = 0)) ∧ Rd w' rb k ∧ Chg rb (rb + 1) w w'
theorem VAt.open {B g : Nat} {w : World} {b : Int} {u v : Value} {s t : List Int} (h : VAt B g w b u v s t) : ∃ a1 c1 a2 c2, u = .slice a1 s.length c1 ∧ v = .slice a2 t.length c2 := by
  obtain ⟨a1, c1, h1⟩ := (h.o1.ints (by have := h.le; omega)).form
  obtain ⟨a2, c2, h2⟩ := (h.o2.ints (by have := h.le; have := h.fit; omega)).form
  exact ⟨a1, c1, a2, c2, h1, h2⟩

end Go.Proofs.Ytgklaobfikbiiaa

/- Walks: a drawn view that may be no view. -/
namespace Go.Proofs.Ytgklaobfikbiiaa
open Go.RowKit
set_option linter.unusedVariables false
set_option maxRecDepth 100000


theorem OwnZ.chgI {lo hi B : Nat} {w w' : World} {y : Value} {xs : List Int} (h : OwnZ w B y xs) (k : Chg lo hi w w') (hne : xs ≠ [] → ∀ g, y.ownBlock = some g → g < lo ∨ hi ≤ g) : OwnZ w' B y xs := by
  rcases h with ho | ho
  · exact .inl ho
  · by_cases hx : xs = []
    · subst hx
      rcases ho.2 with ⟨h2, _⟩ | ⟨g', cap, cur, rfl, hb, hh, r⟩
      · subst h2; exact .inl ⟨rfl, none, 0, rfl, by simp, fun _ => rfl⟩
      · exact .inl ⟨rfl, some ⟨g', 0, none⟩, cap, rfl, r.2.1, fun h => by cases h⟩
    · obtain ⟨g', cap, e, _⟩ := ho.row hx
      subst e
      exact .inr (ho.chgN k (hne hx g' rfl))
theorem Rch.below' {rb lo hi : Nat} {w a b : World} (h : Chg rb (rb + 1) w a) (k : Chg lo hi a b) (hl : w.heap.size ≤ lo) : Chg rb (rb + 1) w b :=
  ⟨k.os.trans h.os, k.tape.trans h.tape, k.output.trans h.output, Nat.le_trans h.size k.size, fun i hi2 hd => (k.block i (Nat.lt_of_lt_of_le hi2 h.size) (.inl (by omega))).trans (h.block i hi2 hd)⟩
/-- a view that need be none lies in block gv -/
def SAt (rb q gv : Nat) (w wx : World) : Prop := ∃ (b : Int) (s t : List Int) (p1 p2 : Option Addr) (n1 r1 n2 r2 : Nat), wx.cell? ⟨gv, 0, none⟩ = some (.int .i64 b) ∧ wx.cell? ⟨gv, 1, none⟩ = some (.slice p1 n1 r1) ∧ wx.cell? ⟨gv, 2, none⟩ = some (.slice p2 n2 r2) ∧
  OwnZ wx (w.heap.size + 1) (.slice p1 n1 r1) s ∧ OwnZ wx (w.heap.size + 1) (.slice p2 n2 r2) t ∧ (s.length ≤ 4 ∧ t.length ≤ 5) ∧ VAt (w.heap.size + 1) w.heap.size wx 0 (.slice none 0 0) (.slice none 0 0) [] [] ∧ Rd wx rb q ∧ Rch rb w wx
def SView (rb k : Nat) (w : World) (e : Ending) (w' : World) : Prop := ∃ (b : Int) (s t : List Int) (p1 p2 : Option Addr) (n1 r1 n2 r2 : Nat), e = .returned (.agg #[.int .i64 b, .slice p1 n1 r1, .slice p2 n2 r2]) ∧
  Ints w' w.heap.size (.slice p1 n1 r1) s ∧ Ints w' w.heap.size (.slice p2 n2 r2) t ∧ s.length ≤ 4 ∧ t.length ≤ 5 ∧ Rd w' rb k ∧ Chg rb (rb + 1) w w'
theorem SAt.of {rb q gv : Nat} {w wx : World} {b : Int} {p1 p2 : Option Addr} {n1 r1 n2 r2 : Nat} {s t : List Int} (V : VAt (w.heap.size + 1) gv wx b (.slice p1 n1 r1) (.slice p2 n2 r2) s t) (Q : VAt (w.heap.size + 1) w.heap.size wx 0 (.slice none 0 0) (.slice none 0 0) [] []) (hr : Rd wx rb q) (X : Rch rb w wx) : SAt rb q gv w wx :=
  ⟨b, s, t, p1, p2, n1, r1, n2, r2, V.c0, V.c1, V.c2, V.o1, V.o2, ⟨V.le, by have := V.fit; have := V.le; omega⟩, Q, hr, X⟩
theorem SAt.put {rb q gv : Nat} {w w9 : World} {b : Int} {p1 p2 : Option Addr} {n1 r1 n2 r2 : Nat} {v2 : Value} {s t : List Int} (c0 : w9.cell? ⟨gv, 0, none⟩ = some (.int .i64 b)) (c1 : w9.cell? ⟨gv, 1, none⟩ = some (.slice p1 n1 r1)) (c2 : w9.cell? ⟨gv, 2, none⟩ = some v2) (f2 : w9.frozen? ⟨gv, 2, none⟩ = false)
    (o1 : OwnZ w9 (w.heap.size + 1) (.slice p1 n1 r1) s) (o2 : OwnZ w9 (w.heap.size + 1) (.slice p2 n2 r2) t) (m1 : s ≠ [] → ∀ g, (Value.slice p1 n1 r1).ownBlock = some g → g ≠ gv) (m2 : ∀ g, (Value.slice p2 n2 r2).ownBlock = some g → g ≠ gv) (hl : s.length ≤ 4 ∧ t.length ≤ 5)
    (Q : VAt (w.heap.size + 1) w.heap.size w9 0 (.slice none 0 0) (.slice none 0 0) [] []) (hr : Rd w9 rb q) (X : Rch rb w w9) (hg : w.heap.size < gv) (hrb : rb < w.heap.size) : SAt rb q gv w (w9.setCell ⟨gv, 2, none⟩ (.slice p2 n2 r2)) := by
  have k : Chg gv (gv + 1) w9 (w9.setCell ⟨gv, 2, none⟩ (.slice p2 n2 r2)) := (Chg.refl gv (gv + 1) w9).setCell (p := ⟨gv, 2, none⟩) (Nat.le_refl _) (Nat.lt_succ_self _) _
  exact ⟨b, s, t, p1, p2, n1, r1, n2, r2, by go_simp, by go_simp, by go_simp, o1.chgI k (fun h g hg' => by have := m1 h g hg'; omega), o2.chgI k (fun _ g hg' => by have := m2 g hg'; omega), hl,
    Q.chgB k (by omega) (fun h => absurd rfl h) (fun h => absurd rfl h), Rd.set2 (show rb < gv by omega) hr, X.set (show w.heap.size ≤ gv by omega) _⟩

end Go.Proofs.Ytgklaobfikbiiaa

/- Words for memory: buffers with one export more, with an export closed, with other cells. No condition. -/
namespace Go.Proofs.Ytgklaobfikbiiaa
open Go.RowKit
set_option linter.unusedVariables false
set_option maxRecDepth 100000

theorem chg_row {w w' : World} {o : Obj} {lo hi : Nat} {row : Option Nat} (hg : (w.alloc o).grownBy w' row) (hr : ∀ g, row = some g → lo ≤ g ∧ g < hi) : Chg lo hi w w' :=
  ⟨hg.os, hg.tape, hg.output, by have := hg.size; simp at this; omega, fun k hk hd => by
    have h1 := hg.block k (by simp; omega) (fun h => by have := hr k h.symm; omega)
    rw [h1]
    exact ((Ext.refl w).alloc o).block k hk⟩
theorem chg_rowD {w w' : World} {o : Obj} {lo hi : Nat} {row : Option Nat} (hg : (w.drew.alloc o).grownBy w' row) (hr : ∀ g, row = some g → lo ≤ g ∧ g < hi) : Chg lo hi w w' :=
  (Chg.of_ext (Ext.drew (Ext.refl w))).trans (chg_row hg hr)
section
variable {w w' W : World} {lo lo2 : Nat} {cv ev v' : Value} {cells : List Int} {es : List Exp} {R : Nat → Value} {e : Exp} {u1 u2 : Value}
theorem BufR.appG (h : BufR W lo cv ev cells es R) (hl : lo2 ≤ lo) (hE : ExpR w' lo2 v' (es ++ [e]) (extR R es.length u1 u2)) (hn : es.length + 1 ≤ 1048576)
    (c1 : e.s ≠ [] → cells ≠ [] → u1.ownBlock ≠ cv.ownBlock) (c2 : e.t ≠ [] → cells ≠ [] → u2.ownBlock ≠ cv.ownBlock)
    (hg : W.grownBy w' ev.ownBlock) (hv : v'.ownBlock = ev.ownBlock ∨ v'.ownBlock = some W.heap.size) : BufR w' lo2 cv v' cells (es ++ [e]) (extR R es.length u1 u2) := by
  refine ⟨(h.cel.lower hl).keptG h.cl hg h.offc, hE, h.cl, by simpa using hn, fun hc => ?_, fun p hp hs hc => ?_, h.cz⟩
  · rcases hv with hv | hv
    · rw [hv]; exact h.offc hc
    · obtain ⟨g, hg1, -, hlt⟩ := h.cel.lt hc
      rw [hg1, hv]
      intro h2
      have := Option.some.inj h2
      omega
  · have hpl : p < 2 * es.length ∨ p = 2 * es.length ∨ p = 2 * es.length + 1 := by
      rw [List.length_append, List.length_singleton] at hp; omega
    rcases hpl with hp | rfl | rfl
    · rw [extR_old hp]; rw [rowAt_app hp] at hs; exact h.offr p hp hs hc
    · rw [extR_a]; rw [rowAt_even, expAt_app2] at hs; exact c1 hs hc
    · rw [extR_b]; rw [rowAt_odd, expAt_app2] at hs; exact c2 hs hc
/-- one export more, whose rows came up before the buffer -/
theorem BufR.app (h : BufR W lo cv ev cells es R) (hl : lo2 ≤ lo) (o1 : OwnZ W lo2 u1 e.s) (o2 : OwnZ W lo2 u2 e.t) (l1 : e.s.length ≤ 4194304) (l2 : e.t.length ≤ 4194304)
    (hd : e.s ≠ [] → e.t ≠ [] → u1.ownBlock ≠ u2.ownBlock) (m1 : e.s ≠ [] → ∀ g, u1.ownBlock = some g → g < lo) (m2 : e.t ≠ [] → ∀ g, u2.ownBlock = some g → g < lo) (hn : es.length + 1 ≤ 1048576)
    (h1 : OwnC w' lo TEXPORT 5 v' (cellsE es R ++ [eCells e u1 u2])) (hg : W.grownBy w' ev.ownBlock) (hv : v'.ownBlock = ev.ownBlock ∨ v'.ownBlock = some W.heap.size) :
    BufR w' lo2 cv v' cells (es ++ [e]) (extR R es.length u1 u2) := by
  refine h.appG hl (h.ex.snocB hl o1 o2 l1 l2 hd m1 m2 h1 hg hv) hn ?_ ?_ hg hv
  · intro hs hc h2
    obtain ⟨g, hg1, hb, -⟩ := h.cel.lt hc
    have := m1 hs g (by rw [h2]; exact hg1); omega
  · intro hs hc h2
    obtain ⟨g, hg1, hb, -⟩ := h.cel.lt hc
    have := m2 hs g (by rw [h2]; exact hg1); omega
/-- one export more, whose rows came up later -/
theorem BufR.appL (h0 : BufR w lo cv ev cells es R) (hx : Ext w W) (o1 : OwnZ W lo u1 e.s) (o2 : OwnZ W lo u2 e.t) (l1 : e.s.length ≤ 4194304) (l2 : e.t.length ≤ 4194304)
    (hd : e.s ≠ [] → e.t ≠ [] → u1.ownBlock ≠ u2.ownBlock) (m1 : e.s ≠ [] → ∀ g, u1.ownBlock = some g → w.heap.size ≤ g) (m2 : e.t ≠ [] → ∀ g, u2.ownBlock = some g → w.heap.size ≤ g) (hn : es.length + 1 ≤ 1048576)
    (h1 : OwnC w' lo TEXPORT 5 v' (cellsE es R ++ [eCells e u1 u2])) (hg : W.grownBy w' ev.ownBlock) (hv : v'.ownBlock = ev.ownBlock ∨ v'.ownBlock = some W.heap.size) :
    BufR w' lo cv v' cells (es ++ [e]) (extR R es.length u1 u2) := by
  refine (h0.ext hx).appG (Nat.le_refl _) (h0.ex.snoc hx o1 o2 l1 l2 hd m1 m2 h1 hg hv) hn ?_ ?_ hg hv
  · intro hs hc h2
    obtain ⟨g, hg1, hb, hlt⟩ := h0.cel.lt hc
    have := m1 hs g (by rw [h2]; exact hg1); omega
  · intro hs hc h2
    obtain ⟨g, hg1, hb, hlt⟩ := h0.cel.lt hc
    have := m2 hs g (by rw [h2]; exact hg1); omega
/-- an export is opened or closed -/
theorem BufR.close {a n c : Nat} (h : BufR w lo cv (.slice (some ⟨a, 0, none⟩) n c) cells es R) (hn : n = es.length) (i : Nat) (hi : i < es.length) (o : Bool) :
    BufR (w.setCell ⟨a, i * 5 + 4, none⟩ (.bool o)) lo cv (.slice (some ⟨a, 0, none⟩) n c) cells (es.set i ⟨(expAt es i).par, (expAt es i).b, (expAt es i).s, (expAt es i).t, o⟩) R := by
  refine ⟨h.cel.keptG h.cl (grown_set w a _ _) h.offc, h.ex.markO hn i hi o, h.cl, by simpa using h.el, h.offc, fun p hp hs hc => ?_, h.cz⟩
  rw [List.length_set] at hp
  refine h.offr p hp (fun h2 => hs ?_) hc
  unfold rowAt at h2 ⊢
  by_cases hq : p / 2 = i
  · subst hq; rw [expAt_setS es _ _ hi]; exact h2
  · rw [expAt_set es i _ _ hi, if_neg hq]; exact h2
/-- other cells, that came up before the buffer -/
theorem BufR.cellsB {cv2 : Value} {c2 : List Int} (h : BufR w lo cv ev cells es R) (hl : lo2 ≤ lo) (o : OwnZ w lo2 cv2 c2) (z : CapZ cv2 c2) (hc : c2.length ≤ 4194304) (m : c2 ≠ [] → ∀ g, cv2.ownBlock = some g → g < lo) : BufR w lo2 cv2 ev c2 es R := by
  refine ⟨o, h.ex.lower hl, hc, h.el, fun hn h2 => ?_, fun p hp hs hn h2 => ?_, z⟩
  · obtain ⟨g, hg1, -, -⟩ := o.lt hn
    have := (h.ex.blk g (by rw [← h2]; exact hg1)).1
    have := m hn g hg1
    omega
  · obtain ⟨g, hg1, hb, -⟩ := h.ex.nblk p hp hs
    have := m hn g (by rw [← h2]; exact hg1)
    omega
/-- other cells, that came up later -/
theorem BufR.cellsL {cv2 : Value} {c2 : List Int} (h0 : BufR w lo cv ev cells es R) (h : BufR W lo cv ev cells es R) (o : OwnZ W lo cv2 c2) (z : CapZ cv2 c2) (hc : c2.length ≤ 4194304) (m : c2 ≠ [] → ∀ g, cv2.ownBlock = some g → w.heap.size ≤ g) : BufR W lo cv2 ev c2 es R := by
  refine ⟨o, h.ex, hc, h.el, fun hn h2 => ?_, fun p hp hs hn h2 => ?_, z⟩
  · obtain ⟨g, hg1, -, -⟩ := o.lt hn
    have := (h0.ex.blk g (by rw [← h2]; exact hg1)).2
    have := m hn g hg1
    omega
  · obtain ⟨g, hg1, -, hb⟩ := h0.ex.nblk p hp hs
    have := m hn g (by rw [← h2]; exact hg1)
    omega
end
/-- where the rows of a buffer lie -/
structure BufAt (P : Nat → Prop) (cv ev : Value) (cells : List Int) (es : List Exp) (R : Nat → Value) : Prop where
  c : cells ≠ [] → ∀ g, cv.ownBlock = some g → P g
  e : ∀ g, ev.ownBlock = some g → P g
  r : ∀ p, p < 2 * es.length → rowAt es p ≠ [] → ∀ g, (R p).ownBlock = some g → P g
/-- a buffer in rows below m, from lo up to m2, and from lo3 on -/
structure BufS (w : World) (lo2 m lo m2 lo3 : Nat) (cv ev : Value) (cells : List Int) (es : List Exp) (R : Nat → Value) : Prop where
  buf : BufR w lo2 cv ev cells es R
  loc : BufAt (fun g => g < m ∨ (lo ≤ g ∧ g < m2) ∨ lo3 ≤ g) cv ev cells es R
section
variable {w w' W : World} {lo lo2 m m2 lo3 : Nat} {cv ev v' : Value} {cells : List Int} {es : List Exp} {R : Nat → Value} {e : Exp} {u1 u2 : Value}
theorem BufR.at (h : BufR w lo cv ev cells es R) : BufAt (fun g => lo ≤ g ∧ g < w.heap.size) cv ev cells es R :=
  ⟨fun hc g hg => by obtain ⟨g', h1, h2, h3⟩ := h.cel.lt hc; rw [hg] at h1; cases h1; exact ⟨h2, h3⟩, fun g hg => h.ex.blk g hg,
   fun p hp hs g hg => by obtain ⟨g', h1, h2, h3⟩ := h.ex.nblk p hp hs; rw [hg] at h1; cases h1; exact ⟨h2, h3⟩⟩
theorem OwnC.chgO {base E sz l hi : Nat} {v : Value} {L : List (List Value)} (h : OwnC w base E sz v L) (k : Chg l hi w w') (hb : ∀ g, v.ownBlock = some g → g < l ∨ hi ≤ g) : OwnC w' base E sz v L := by
  refine ⟨⟨h.1.1, ?_⟩, h.2⟩
  rcases h.1.2 with h2 | ⟨g, cap, cur, hv, hg, hh, r⟩
  · exact .inl h2
  · exact .inr ⟨g, cap, cur, hv, hg, (k.block g (Array.getElem?_eq_some_iff.1 hh).1 (hb g (by rw [hv]; rfl))).trans hh, r⟩
theorem BufR.chgO {l hi : Nat} {P : Nat → Prop} (h : BufR w lo cv ev cells es R) (q : BufAt P cv ev cells es R) (k : Chg l hi w w') (hP : ∀ g, P g → g < l ∨ hi ≤ g) : BufR w' lo cv ev cells es R :=
  ⟨h.cel.chgI k (fun hn g hg => hP g (q.c hn g hg)), ⟨h.ex.row.chgO k (fun g hg => hP g (q.e g hg)), fun p hp => (h.ex.nest p hp).chgI k (fun hn g hg => hP g (q.r p hp hn g hg)), h.ex.lens, h.ex.apart, h.ex.off⟩, h.cl, h.el, h.offc, h.offr, h.cz⟩
theorem BufS.chg {l hi : Nat} (h : BufS w lo2 m lo m2 lo3 cv ev cells es R) (k : Chg l hi w w') (hb : m ≤ l ∧ (hi ≤ lo ∨ m2 ≤ l) ∧ hi ≤ lo3) : BufS w' lo2 m lo m2 lo3 cv ev cells es R :=
  ⟨h.buf.chgO h.loc k (fun g hg => by rcases hg with hg | hg | hg <;> omega), h.loc⟩
theorem BufS.ext (h : BufS w lo2 m lo m2 lo3 cv ev cells es R) (hx : Ext w w') : BufS w' lo2 m lo m2 lo3 cv ev cells es R := ⟨h.buf.ext hx, h.loc⟩
theorem BufS.ints (h : BufS w lo2 m lo m2 lo3 cv ev cells es R) : Ints w lo2 cv cells := h.buf.ints
theorem BufS.exps (h : BufS w lo2 m lo m2 lo3 cv ev cells es R) : Exps w lo2 ev es := h.buf.exps
theorem BufS.mk' (hS : BufR w' lo2 cv v' cells (es ++ [e]) (extR R es.length u1 u2)) (q : BufAt (fun g => lo ≤ g ∧ g < m2) cv ev cells es R) (c1 : e.s ≠ [] → ∀ g, u1.ownBlock = some g → g < m ∨ lo3 ≤ g) (c2 : e.t ≠ [] → ∀ g, u2.ownBlock = some g → g < m ∨ lo3 ≤ g)
    (hv : v'.ownBlock = ev.ownBlock ∨ v'.ownBlock = some W.heap.size) (hw : lo3 ≤ W.heap.size) : BufS w' lo2 m lo m2 lo3 cv v' cells (es ++ [e]) (extR R es.length u1 u2) := by
  refine ⟨hS, fun hc g hg => .inr (.inl (q.c hc g hg)), fun g hg => ?_, fun p hp hs g hg => ?_⟩
  · rcases hv with hv | hv
    · rw [hv] at hg; exact .inr (.inl (q.e g hg))
    · rw [hv] at hg; cases hg; exact .inr (.inr hw)
  · have hpl : p < 2 * es.length ∨ p = 2 * es.length ∨ p = 2 * es.length + 1 := by
      rw [List.length_append, List.length_singleton] at hp; omega
    rcases hpl with hp | rfl | rfl
    · rw [extR_old hp] at hg; rw [rowAt_app hp] at hs; exact .inr (.inl (q.r p hp hs g hg))
    · rw [extR_a] at hg; rw [rowAt_even, expAt_app2] at hs; rcases c1 hs g hg with h | h; exact .inl h; exact .inr (.inr h)
    · rw [extR_b] at hg; rw [rowAt_odd, expAt_app2] at hs; rcases c2 hs g hg with h | h; exact .inl h; exact .inr (.inr h)
/-- other cells, that came up later than the buffer's rows -/
theorem BufR.cellsQ {cv2 : Value} {c2 : List Int} (h : BufR W lo cv ev cells es R) (hl : lo2 ≤ lo) (q : BufAt (fun g => lo3 ≤ g ∧ g < m2) cv ev cells es R) (o : OwnZ W lo2 cv2 c2) (z : CapZ cv2 c2) (hc : c2.length ≤ 4194304) (m : c2 ≠ [] → ∀ g, cv2.ownBlock = some g → m2 ≤ g) : BufR W lo2 cv2 ev c2 es R := by
  refine ⟨o, h.ex.lower hl, hc, h.el, fun hn h2 => ?_, fun p hp hs hn h2 => ?_, z⟩
  · obtain ⟨g, hg1, -, -⟩ := o.lt hn
    have := (q.e g (by rw [← h2]; exact hg1)).2
    have := m hn g hg1
    omega
  · obtain ⟨g, hg1, -, -⟩ := o.lt hn
    have := (q.r p hp hs g (by rw [h2]; exact hg1)).2
    have := m hn g hg1
    omega
end
/-- a buffer in rows from lo up to m2 -/
structure BufT (w : World) (lo m2 : Nat) (cv ev : Value) (cells : List Int) (es : List Exp) (R : Nat → Value) : Prop where
  buf : BufR w lo cv ev cells es R
  loc : BufAt (fun g => lo ≤ g ∧ g < m2) cv ev cells es R
section
variable {w w' : World} {lo m2 : Nat} {cv ev : Value} {cells : List Int} {es : List Exp} {R : Nat → Value}
theorem BufT.of (h : BufR w lo cv ev cells es R) (q : BufAt (fun g => lo ≤ g ∧ g < m2) cv ev cells es R) : BufT w lo m2 cv ev cells es R := ⟨h, q⟩
theorem BufT.ext (h : BufT w lo m2 cv ev cells es R) (hx : Ext w w') : BufT w' lo m2 cv ev cells es R := ⟨h.buf.ext hx, h.loc⟩
theorem BufT.chg {l hi : Nat} (h : BufT w lo m2 cv ev cells es R) (k : Chg l hi w w') (hb : hi ≤ lo ∨ m2 ≤ l) : BufT w' lo m2 cv ev cells es R := ⟨h.buf.chgO h.loc k (fun g hg => by omega), h.loc⟩
theorem BufT.ints (h : BufT w lo m2 cv ev cells es R) : Ints w lo cv cells := h.buf.ints
theorem BufT.exps (h : BufT w lo m2 cv ev cells es R) : Exps w lo ev es := h.buf.exps
end
/-- a call hands back a new buffer in blocks from lo on, and whether there is one -/
def PBufL (lo : Nat) (w : World) (cells : List Int) (es : List Exp) (e : Ending) (w' : World) : Prop := ∃ cv ev R, e = .returned (.tuple #[.agg #[cv, ev], .bool true]) ∧ BufR w' lo cv ev cells es R ∧ Ext w w'
end Go.Proofs.Ytgklaobfikbiiaa

/- Walks: ReleaseExport of both. -/
namespace Go.Proofs.Ytgklaobfikbiiaa
open Go.RowKit
set_option linter.unusedVariables false
set_option maxRecDepth 100000

set_option maxHeartbeats 3200000 in
theorem implReleaseExport_c (cells : List Int) (es : List Exp) (cv ev : Value) (i : Int) (w : World) (l1 l2 : Nat) (h1 : Ints w l1 cv cells) (h2 : Exps w l2 ev es) :
  Calls Try.prog 20 #[.agg #[cv, ev], .int .i64 i] w (PBX w (relA cells es i)) := by
 obtain ⟨p0, c0, rfl⟩ := h1.form
 obtain ⟨p1, c1, rfl⟩ := h2.form
 have he1 := h2.len
 have hc1 := h1.len
 go_enter Try.func20, Try.ntmps20
 go_wp2_with fail
 refine (implIsOpen_c cells es (.slice p0 cells.length c0) (.slice p1 es.length c1) i _ _ _ (h1.ext qXt) (h2.ext qXt)).mono ?_
 rintro e w1 ⟨rfl, xw1⟩
 have Lw1 : Ext w w1 := Ext.trans qXt xw1
 have Xw1 : Ext w w1 := Lw1
 have b10 : w1.cell? ⟨w.heap.size, 0, none⟩ = some (.slice p0 cells.length c0) := xw1.cell qCl
 have b11 : w1.cell? ⟨w.heap.size, 1, none⟩ = some (.slice p1 es.length c1) := xw1.cell qCl
 have b20 : w1.cell? ⟨w.heap.size + 1, 0, none⟩ = some (.slice none 0 0) := xw1.cell qCl
 have b21 : w1.cell? ⟨w.heap.size + 1, 1, none⟩ = some (.slice none 0 0) := xw1.cell qCl
 have f_b20 : w1.frozen? ⟨w.heap.size + 1, 0, none⟩ = false := xw1.frz (by simp <;> omega) qFz
 have f_b21 : w1.frozen? ⟨w.heap.size + 1, 1, none⟩ = false := xw1.frz (by simp <;> omega) qFz
 have z_b1 : w.heap.size < w1.heap.size := qB b10
 have z_b2 : w.heap.size + 1 < w1.heap.size := qB b20
 have s_w1 : w.heap.size ≤ w1.heap.size := Xw1.size
 clear xw1
 cases hB3 : bufB cells es && opB es i
 ·
  replace hB3 := Lib.hid hB3
  go_wp2_with fail
  generalize hW1 : ((w1.setCell ⟨w.heap.size + 1, 0, none⟩ (.slice none 0 0)).setCell ⟨w.heap.size + 1, 1, none⟩ (.slice none 0 0)) = w2 at *
  have Kw2 : Chg (w.heap.size + 1) (w.heap.size + 1 + 1) w1 w2 := by subst hW1; exact qCh
  have Xw2 : Ext w w2 := by subst hW1; exact qXt
  replace b10 := Kw2.cell (by omega) b10
  replace b11 := Kw2.cell (by omega) b11
  replace b20 : w2.cell? ⟨w.heap.size + 1, 0, none⟩ = some (.slice none 0 0) := by subst hW1; go_simp
  replace f_b20 : w2.frozen? ⟨w.heap.size + 1, 0, none⟩ = false := by subst hW1; first | (simp only [World.frozen?_setCell]; with_reducible assumption) | go_simp
  replace b21 : w2.cell? ⟨w.heap.size + 1, 1, none⟩ = some (.slice none 0 0) := by subst hW1; go_simp
  replace f_b21 : w2.frozen? ⟨w.heap.size + 1, 1, none⟩ = false := by subst hW1; first | (simp only [World.frozen?_setCell]; with_reducible assumption) | go_simp
  clear Kw2
  have z_b1 : w.heap.size < w2.heap.size := qB b10
  have z_b2 : w.heap.size + 1 < w2.heap.size := qB b20
  have s_w2 : w.heap.size ≤ w2.heap.size := Xw2.size
  clear hW1
  refine bodyPost_ret (v := .tuple #[.agg #[.slice none 0 0, .slice none 0 0], .bool false]) (by simp only [results, Try.results20]; go_simp) rfl ?_
  exact PBX.no (by unfold relA; rw [(show (bufB cells es && opB es i) = false from hB3.out), Bool.false_and]; rfl) (Xw2.trans qXt)
 ·
  replace hB3 := Lib.hid hB3
  have hbb : Hid (bufB cells es = true) := Lib.hid (by have h7 := hB3.out; rw [Bool.and_eq_true] at h7; exact h7.1)
  have hop : Hid (opB es i = true) := Lib.hid (by have h7 := hB3.out; rw [Bool.and_eq_true] at h7; exact h7.2)
  obtain ⟨hi0, hi1, hi2⟩ := opB_in hop.out
  obtain ⟨k, rfl⟩ : ∃ k : Nat, i = k := ⟨i.toNat, by omega⟩
  have hlt : k < es.length := by omega
  have hesne : Hid (es ≠ []) := Lib.hid (fun h => by rw [h] at hlt; exact absurd hlt (by simp))
  replace hi2 := Lib.hid hi2
  have hka : Hid (kidsA cells es (k : Int) = selL (kidP (k : Int)) es es.length) := Lib.hid (by unfold kidsA; rw [hbb.out, decide_eq_true (show (-1 : Int) ≤ (k : Int) by omega), decide_eq_true (show (k : Int) < (es.length : Int) by omega)]; rfl)
  go_wp2_with fail
  refine (pi_eq hka.out (implKidsOf_c cells es (.slice p0 cells.length c0) (.slice p1 es.length c1) (k : Int) _ _ _ (h1.ext (Xw1.trans qXt)) (h2.ext (Xw1.trans qXt)))).mono ?_
  rintro e w2 ⟨fv4, rfl, i5, -, xw2⟩
  have Lw2 : Ext w1 w2 := Ext.trans qXt xw2
  have Xw2 : Ext w w2 := Xw1.trans Lw2
  replace b10 := Lw2.cell b10
  replace b11 := Lw2.cell b11
  replace b20 := Lw2.cell b20
  replace b21 := Lw2.cell b21
  replace f_b20 := Lw2.frz z_b2 f_b20
  replace f_b21 := Lw2.frz z_b2 f_b21
  have z_b1 : w.heap.size < w2.heap.size := qB b10
  have z_b2 : w.heap.size + 1 < w2.heap.size := qB b20
  have s_w2 : w.heap.size ≤ w2.heap.size := Xw2.size
  clear xw2
  obtain ⟨afv4, cfv4, rfl⟩ := i5.form
  by_cases hc6 : (0 : Int) < ((selL (kidP (k : Int)) es es.length).length : Int)
  ·
   go_wp2_with fail
   generalize hW2 : ((w2.setCell ⟨w.heap.size + 1, 0, none⟩ (.slice none 0 0)).setCell ⟨w.heap.size + 1, 1, none⟩ (.slice none 0 0)) = w3 at *
   have Kw3 : Chg (w.heap.size + 1) (w.heap.size + 1 + 1) w2 w3 := by subst hW2; exact qCh
   have Xw3 : Ext w w3 := by subst hW2; exact qXt
   replace b10 := Kw3.cell (by omega) b10
   replace b11 := Kw3.cell (by omega) b11
   replace b20 : w3.cell? ⟨w.heap.size + 1, 0, none⟩ = some (.slice none 0 0) := by subst hW2; go_simp
   replace f_b20 : w3.frozen? ⟨w.heap.size + 1, 0, none⟩ = false := by subst hW2; first | (simp only [World.frozen?_setCell]; with_reducible assumption) | go_simp
   replace b21 : w3.cell? ⟨w.heap.size + 1, 1, none⟩ = some (.slice none 0 0) := by subst hW2; go_simp
   replace f_b21 : w3.frozen? ⟨w.heap.size + 1, 1, none⟩ = false := by subst hW2; first | (simp only [World.frozen?_setCell]; with_reducible assumption) | go_simp
   replace i5 := i5.chg Kw3 (by omega)
   clear Kw3
   have z_b1 : w.heap.size < w3.heap.size := qB b10
   have z_b2 : w.heap.size + 1 < w3.heap.size := qB b20
   have s_w3 : w.heap.size ≤ w3.heap.size := Xw3.size
   clear hW2
   refine bodyPost_ret (v := .tuple #[.agg #[.slice none 0 0, .slice none 0 0], .bool false]) (by simp only [results, Try.results20]; go_simp) rfl ?_
   exact PBX.no (by unfold relA; rw [decide_eq_false (show ¬ (selL (kidP (k : Int)) es es.length).length = 0 by omega), Bool.and_false]; rfl) (Xw3.trans qXt)
  ·
   go_wp2_with fail
   have Q10_b10 := Lib.hid b10
   have Q10_b11 := Lib.hid b11
   have Q10_zb1 := z_b1
   have Q10_b20 := Lib.hid b20
   have Q10_f_b20 := Lib.hid f_b20
   have Q10_b21 := Lib.hid b21
   have Q10_f_b21 := Lib.hid f_b21
   have Q10_zb2 := z_b2
   have Q10_i5 := Lib.hid i5
   have BL11 : Ext w2 w2 := Ext.refl _
   refine (implCopyBuffer_c cells es (.slice p0 cells.length c0) (.slice p1 es.length c1) _ _ _ (h1.ext (Xw2.trans qXt)) (h2.ext (Xw2.trans qXt))).mono ?_
   rintro e w3 ⟨cvfb8, evfb8, R9, rfl, bf7, xw3⟩
   have Lw3 : Ext w2 w3 := Ext.trans qXt xw3
   have Xw3 : Ext w w3 := Xw2.trans Lw3
   replace b10 := Lw3.cell b10
   replace b11 := Lw3.cell b11
   replace b20 := Lw3.cell b20
   replace b21 := Lw3.cell b21
   replace f_b20 := Lw3.frz z_b2 f_b20
   replace f_b21 := Lw3.frz z_b2 f_b21
   have z_b1 : w.heap.size < w3.heap.size := qB b10
   have z_b2 : w.heap.size + 1 < w3.heap.size := qB b20
   replace i5 := i5.ext Lw3
   have s_w3 : w.heap.size ≤ w3.heap.size := Xw3.size
   have BL11_w3 : Ext w2 w3 := BL11.trans Lw3
   clear xw3
   replace bf7 := bf7.lower (lo' := w2.heap.size) qSo
   obtain ⟨afb8, cfb8, rfl⟩ := bf7.ints.form
   obtain ⟨efb8, dfb8, rfl⟩ := bf7.exps.form
   have q_bf7 := Lib.hid bf7.at
   go_wp2_with fail
   generalize hW3 : w3.alloc (.cells #[.slice afb8 cells.length cfb8, .slice efb8 es.length dfb8] 26) = w4 at *
   have Lw4 : Ext w3 w4 := by subst hW3; exact qXt
   have Xw4 : Ext w w4 := Xw3.trans Lw4
   replace b10 := Lw4.cell b10
   replace b11 := Lw4.cell b11
   replace b20 := Lw4.cell b20
   replace b21 := Lw4.cell b21
   replace f_b20 := Lw4.frz z_b2 f_b20
   replace f_b21 := Lw4.frz z_b2 f_b21
   have b120 : w4.cell? ⟨w3.heap.size, 0, none⟩ = some (.slice afb8 cells.length cfb8) := by subst hW3; exact qCl
   have b121 : w4.cell? ⟨w3.heap.size, 1, none⟩ = some (.slice efb8 es.length dfb8) := by subst hW3; exact qCl
   have z_b1 : w.heap.size < w4.heap.size := qB b10
   have z_b2 : w.heap.size + 1 < w4.heap.size := qB b20
   have z_b12 : w3.heap.size < w4.heap.size := qB b120
   replace i5 := i5.ext Lw4
   replace bf7 := bf7.ext Lw4
   have s_w4 : w.heap.size ≤ w4.heap.size := Xw4.size
   have BL11_w4 : Ext w2 w4 := BL11_w3.trans Lw4
   clear hW3
   obtain ⟨gr13, rr14, hvgr13, -⟩ := bf7.ex.big hesne.out
   injection hvgr13 with hvgr13a hvgr13b hvgr13c
   subst hvgr13a
   subst hvgr13c
   obtain ⟨hlgr13, hhgr13⟩ := q_bf7.out.e gr13 rfl
   obtain ⟨A15a, A15b⟩ := bf7.ex.cells rfl k 4 hlt (by omega)
   simp only [eCells, List.getElem?_cons_zero, List.getElem?_cons_succ] at A15a
   have S_bf7 := bf7.close rfl k hlt false
   replace S_bf7 := Lib.hid S_bf7
   replace bf7 := Lib.hid bf7
   go_wp2_with fail
   generalize hW4 : (w4.setCell ⟨gr13, k * 5 + 4, none⟩ (.bool false)) = w5 at *
   have Kw5 : Chg (gr13) (gr13 + 1) w4 w5 := by subst hW4; exact qCh
   have Xw5 : Ext w w5 := by subst hW4; exact qXt
   have BL11_w5 : Ext w2 w5 := by subst hW4; exact qXt
   replace b10 := BL11_w5.cell Q10_b10.out
   replace b11 := BL11_w5.cell Q10_b11.out
   replace b20 := BL11_w5.cell Q10_b20.out
   replace f_b20 := BL11_w5.frz Q10_zb2 Q10_f_b20.out
   replace b21 := BL11_w5.cell Q10_b21.out
   replace f_b21 := BL11_w5.frz Q10_zb2 Q10_f_b21.out
   replace b120 := Kw5.cell (by omega) b120
   replace b121 := Kw5.cell (by omega) b121
   replace i5 := (Q10_i5.out).ext BL11_w5
   clear Kw5
   have z_b1 : w.heap.size < w5.heap.size := qB b10
   have z_b2 : w.heap.size + 1 < w5.heap.size := qB b20
   have z_b12 : w3.heap.size < w5.heap.size := qB b120
   have s_w5 : w.heap.size ≤ w5.heap.size := Xw5.size
   clear hW4
   clear bf7 A15a A15b
   have bf7 := S_bf7.out
   clear S_bf7
   go_wp2_with fail
   generalize hW5 : ((w5.setCell ⟨w.heap.size + 1, 0, none⟩ (.slice afb8 cells.length cfb8)).setCell ⟨w.heap.size + 1, 1, none⟩ (.slice (some ⟨gr13, 0, none⟩) es.length dfb8)) = w6 at *
   have Kw6 : Chg (w.heap.size + 1) (w.heap.size + 1 + 1) w5 w6 := by subst hW5; exact qCh
   have Xw6 : Ext w w6 := by subst hW5; exact qXt
   replace b10 := Kw6.cell (by omega) b10
   replace b11 := Kw6.cell (by omega) b11
   replace b20 : w6.cell? ⟨w.heap.size + 1, 0, none⟩ = some (.slice afb8 cells.length cfb8) := by subst hW5; go_simp
   replace f_b20 : w6.frozen? ⟨w.heap.size + 1, 0, none⟩ = false := by subst hW5; first | (simp only [World.frozen?_setCell]; with_reducible assumption) | go_simp
   replace b21 : w6.cell? ⟨w.heap.size + 1, 1, none⟩ = some (.slice (some ⟨gr13, 0, none⟩) es.length dfb8) := by subst hW5; go_simp
   replace f_b21 : w6.frozen? ⟨w.heap.size + 1, 1, none⟩ = false := by subst hW5; first | (simp only [World.frozen?_setCell]; with_reducible assumption) | go_simp
   replace b120 := Kw6.cell (by omega) b120
   replace b121 := Kw6.cell (by omega) b121
   replace i5 := i5.chg Kw6 (by omega)
   replace bf7 := bf7.chg Kw6 (by omega)
   clear Kw6
   have z_b1 : w.heap.size < w6.heap.size := qB b10
   have z_b2 : w.heap.size + 1 < w6.heap.size := qB b20
   have z_b12 : w3.heap.size < w6.heap.size := qB b120
   have s_w6 : w.heap.size ≤ w6.heap.size := Xw6.size
   clear hW5
   refine bodyPost_ret (v := .tuple #[.agg #[.slice afb8 cells.length cfb8, .slice (some ⟨gr13, 0, none⟩) es.length dfb8], .bool true]) (by simp only [results, Try.results20]; go_simp) rfl ?_
   exact PBX.yes (by unfold relA; rw [hbb.out, hop.out, decide_eq_true (show (selL (kidP (k : Int)) es es.length).length = 0 by omega)]; rfl) ((bf7.ext qXt).lower (by omega)) (Xw6.trans qXt)

set_option maxHeartbeats 3200000 in
theorem specReleaseExport_c (cells : List Int) (es : List Exp) (cv ev : Value) (i : Int) (w : World) (l1 l2 : Nat) (h1 : Ints w l1 cv cells) (h2 : Exps w l2 ev es) :
  Calls Try.prog 32 #[.agg #[cv, ev], .int .i64 i] w (PBX w (relA cells es i)) := by
 obtain ⟨p0, c0, rfl⟩ := h1.form
 obtain ⟨p1, c1, rfl⟩ := h2.form
 have he1 := h2.len
 have hc1 := h1.len
 go_enter Try.func32, Try.ntmps32
 go_wp2_with fail
 refine (validBuffer_c cells es (.slice p0 cells.length c0) (.slice p1 es.length c1) _ _ _ (h1.ext qXt) (h2.ext qXt)).mono ?_
 rintro e w1 ⟨rfl, xw1⟩
 have Lw1 : Ext w w1 := Ext.trans qXt xw1
 have Xw1 : Ext w w1 := Lw1
 have b10 : w1.cell? ⟨w.heap.size, 0, none⟩ = some (.slice p0 cells.length c0) := xw1.cell qCl
 have b11 : w1.cell? ⟨w.heap.size, 1, none⟩ = some (.slice p1 es.length c1) := xw1.cell qCl
 have b20 : w1.cell? ⟨w.heap.size + 1, 0, none⟩ = some (.slice none 0 0) := xw1.cell qCl
 have b21 : w1.cell? ⟨w.heap.size + 1, 1, none⟩ = some (.slice none 0 0) := xw1.cell qCl
 have f_b20 : w1.frozen? ⟨w.heap.size + 1, 0, none⟩ = false := xw1.frz (by simp <;> omega) qFz
 have f_b21 : w1.frozen? ⟨w.heap.size + 1, 1, none⟩ = false := xw1.frz (by simp <;> omega) qFz
 have z_b1 : w.heap.size < w1.heap.size := qB b10
 have z_b2 : w.heap.size + 1 < w1.heap.size := qB b20
 have s_w1 : w.heap.size ≤ w1.heap.size := Xw1.size
 clear xw1
 cases hB3 : bufB cells es
 ·
  replace hB3 := Lib.hid hB3
  go_wp2_with fail
  generalize hW6 : ((w1.setCell ⟨w.heap.size + 1, 0, none⟩ (.slice none 0 0)).setCell ⟨w.heap.size + 1, 1, none⟩ (.slice none 0 0)) = w2 at *
  have Kw2 : Chg (w.heap.size + 1) (w.heap.size + 1 + 1) w1 w2 := by subst hW6; exact qCh
  have Xw2 : Ext w w2 := by subst hW6; exact qXt
  replace b10 := Kw2.cell (by omega) b10
  replace b11 := Kw2.cell (by omega) b11
  replace b20 : w2.cell? ⟨w.heap.size + 1, 0, none⟩ = some (.slice none 0 0) := by subst hW6; go_simp
  replace f_b20 : w2.frozen? ⟨w.heap.size + 1, 0, none⟩ = false := by subst hW6; first | (simp only [World.frozen?_setCell]; with_reducible assumption) | go_simp
  replace b21 : w2.cell? ⟨w.heap.size + 1, 1, none⟩ = some (.slice none 0 0) := by subst hW6; go_simp
  replace f_b21 : w2.frozen? ⟨w.heap.size + 1, 1, none⟩ = false := by subst hW6; first | (simp only [World.frozen?_setCell]; with_reducible assumption) | go_simp
  clear Kw2
  have z_b1 : w.heap.size < w2.heap.size := qB b10
  have z_b2 : w.heap.size + 1 < w2.heap.size := qB b20
  have s_w2 : w.heap.size ≤ w2.heap.size := Xw2.size
  clear hW6
  refine bodyPost_ret (v := .tuple #[.agg #[.slice none 0 0, .slice none 0 0], .bool false]) (by simp only [results, Try.results32]; go_simp) rfl ?_
  exact PBX.no (by unfold relA; rw [(show (bufB cells es && opB es i) = false by rw [hB3.out]; rfl), Bool.false_and]; rfl) (Xw2.trans qXt)
 ·
  replace hB3 := Lib.hid hB3
  have hbb : Hid (bufB cells es = true) := Lib.hid hB3.out
  go_wp2_with fail
  refine (specIsOpen_c cells es (.slice p0 cells.length c0) (.slice p1 es.length c1) i _ _ _ (h1.ext (Xw1.trans qXt)) (h2.ext (Xw1.trans qXt))).mono ?_
  rintro e w2 ⟨rfl, xw2⟩
  have Lw2 : Ext w1 w2 := Ext.trans qXt xw2
  have Xw2 : Ext w w2 := Xw1.trans Lw2
  replace b10 := Lw2.cell b10
  replace b11 := Lw2.cell b11
  replace b20 := Lw2.cell b20
  replace b21 := Lw2.cell b21
  replace f_b20 := Lw2.frz z_b2 f_b20
  replace f_b21 := Lw2.frz z_b2 f_b21
  have z_b1 : w.heap.size < w2.heap.size := qB b10
  have z_b2 : w.heap.size + 1 < w2.heap.size := qB b20
  have s_w2 : w.heap.size ≤ w2.heap.size := Xw2.size
  clear xw2
  cases hB4 : opB es i
  ·
   replace hB4 := Lib.hid hB4
   go_wp2_with fail
   generalize hW7 : ((w2.setCell ⟨w.heap.size + 1, 0, none⟩ (.slice none 0 0)).setCell ⟨w.heap.size + 1, 1, none⟩ (.slice none 0 0)) = w3 at *
   have Kw3 : Chg (w.heap.size + 1) (w.heap.size + 1 + 1) w2 w3 := by subst hW7; exact qCh
   have Xw3 : Ext w w3 := by subst hW7; exact qXt
   replace b10 := Kw3.cell (by omega) b10
   replace b11 := Kw3.cell (by omega) b11
   replace b20 : w3.cell? ⟨w.heap.size + 1, 0, none⟩ = some (.slice none 0 0) := by subst hW7; go_simp
   replace f_b20 : w3.frozen? ⟨w.heap.size + 1, 0, none⟩ = false := by subst hW7; first | (simp only [World.frozen?_setCell]; with_reducible assumption) | go_simp
   replace b21 : w3.cell? ⟨w.heap.size + 1, 1, none⟩ = some (.slice none 0 0) := by subst hW7; go_simp
   replace f_b21 : w3.frozen? ⟨w.heap.size + 1, 1, none⟩ = false := by subst hW7; first | (simp only [World.frozen?_setCell]; with_reducible assumption) | go_simp
   clear Kw3
   have z_b1 : w.heap.size < w3.heap.size := qB b10
   have z_b2 : w.heap.size + 1 < w3.heap.size := qB b20
   have s_w3 : w.heap.size ≤ w3.heap.size := Xw3.size
   clear hW7
   refine bodyPost_ret (v := .tuple #[.agg #[.slice none 0 0, .slice none 0 0], .bool false]) (by simp only [results, Try.results32]; go_simp) rfl ?_
   exact PBX.no (by unfold relA; rw [(show (bufB cells es && opB es i) = false by rw [hB4.out, Bool.and_false]), Bool.false_and]; rfl) (Xw3.trans qXt)
  ·
   replace hB4 := Lib.hid hB4
   have hop : Hid (opB es i = true) := Lib.hid hB4.out
   obtain ⟨hi0, hi1, hi2⟩ := opB_in hop.out
   obtain ⟨k, rfl⟩ : ∃ k : Nat, i = k := ⟨i.toNat, by omega⟩
   have hlt : k < es.length := by omega
   have hesne : Hid (es ≠ []) := Lib.hid (fun h => by rw [h] at hlt; exact absurd hlt (by simp))
   replace hi2 := Lib.hid hi2
   have hka : Hid (kidsA cells es (k : Int) = selL (kidP (k : Int)) es es.length) := Lib.hid (by unfold kidsA; rw [hbb.out, decide_eq_true (show (-1 : Int) ≤ (k : Int) by omega), decide_eq_true (show (k : Int) < (es.length : Int) by omega)]; rfl)
   go_wp2_with fail
   refine (kids_c cells es (.slice p0 cells.length c0) (.slice p1 es.length c1) (k : Int) _ _ _ (h1.ext (Xw2.trans qXt)) (h2.ext (Xw2.trans qXt))).mono ?_
   rintro e w3 ⟨fv5, rfl, i6, -, xw3⟩
   have Lw3 : Ext w2 w3 := Ext.trans qXt xw3
   have Xw3 : Ext w w3 := Xw2.trans Lw3
   replace b10 := Lw3.cell b10
   replace b11 := Lw3.cell b11
   replace b20 := Lw3.cell b20
   replace b21 := Lw3.cell b21
   replace f_b20 := Lw3.frz z_b2 f_b20
   replace f_b21 := Lw3.frz z_b2 f_b21
   have z_b1 : w.heap.size < w3.heap.size := qB b10
   have z_b2 : w.heap.size + 1 < w3.heap.size := qB b20
   have s_w3 : w.heap.size ≤ w3.heap.size := Xw3.size
   clear xw3
   obtain ⟨afv5, cfv5, rfl⟩ := i6.form
   by_cases hc7 : (0 : Int) < ((selL (kidP (k : Int)) es es.length).length : Int)
   ·
    go_wp2_with fail
    generalize hW8 : ((w3.setCell ⟨w.heap.size + 1, 0, none⟩ (.slice none 0 0)).setCell ⟨w.heap.size + 1, 1, none⟩ (.slice none 0 0)) = w4 at *
    have Kw4 : Chg (w.heap.size + 1) (w.heap.size + 1 + 1) w3 w4 := by subst hW8; exact qCh
    have Xw4 : Ext w w4 := by subst hW8; exact qXt
    replace b10 := Kw4.cell (by omega) b10
    replace b11 := Kw4.cell (by omega) b11
    replace b20 : w4.cell? ⟨w.heap.size + 1, 0, none⟩ = some (.slice none 0 0) := by subst hW8; go_simp
    replace f_b20 : w4.frozen? ⟨w.heap.size + 1, 0, none⟩ = false := by subst hW8; first | (simp only [World.frozen?_setCell]; with_reducible assumption) | go_simp
    replace b21 : w4.cell? ⟨w.heap.size + 1, 1, none⟩ = some (.slice none 0 0) := by subst hW8; go_simp
    replace f_b21 : w4.frozen? ⟨w.heap.size + 1, 1, none⟩ = false := by subst hW8; first | (simp only [World.frozen?_setCell]; with_reducible assumption) | go_simp
    replace i6 := i6.chg Kw4 (by omega)
    clear Kw4
    have z_b1 : w.heap.size < w4.heap.size := qB b10
    have z_b2 : w.heap.size + 1 < w4.heap.size := qB b20
    have s_w4 : w.heap.size ≤ w4.heap.size := Xw4.size
    clear hW8
    refine bodyPost_ret (v := .tuple #[.agg #[.slice none 0 0, .slice none 0 0], .bool false]) (by simp only [results, Try.results32]; go_simp) rfl ?_
    exact PBX.no (by unfold relA; rw [decide_eq_false (show ¬ (selL (kidP (k : Int)) es es.length).length = 0 by omega), Bool.and_false]; rfl) (Xw4.trans qXt)
   ·
    go_wp2_with fail
    have Q11_b10 := Lib.hid b10
    have Q11_b11 := Lib.hid b11
    have Q11_zb1 := z_b1
    have Q11_b20 := Lib.hid b20
    have Q11_f_b20 := Lib.hid f_b20
    have Q11_b21 := Lib.hid b21
    have Q11_f_b21 := Lib.hid f_b21
    have Q11_zb2 := z_b2
    have Q11_i6 := Lib.hid i6
    have BL12 : Ext w3 w3 := Ext.refl _
    refine (specCopyBuffer_c cells es (.slice p0 cells.length c0) (.slice p1 es.length c1) _ _ _ (h1.ext (Xw3.trans qXt)) (h2.ext (Xw3.trans qXt))).mono ?_
    rintro e w4 ⟨cvfb9, evfb9, R10, rfl, bf8, xw4⟩
    have Lw4 : Ext w3 w4 := Ext.trans qXt xw4
    have Xw4 : Ext w w4 := Xw3.trans Lw4
    replace b10 := Lw4.cell b10
    replace b11 := Lw4.cell b11
    replace b20 := Lw4.cell b20
    replace b21 := Lw4.cell b21
    replace f_b20 := Lw4.frz z_b2 f_b20
    replace f_b21 := Lw4.frz z_b2 f_b21
    have z_b1 : w.heap.size < w4.heap.size := qB b10
    have z_b2 : w.heap.size + 1 < w4.heap.size := qB b20
    replace i6 := i6.ext Lw4
    have s_w4 : w.heap.size ≤ w4.heap.size := Xw4.size
    have BL12_w4 : Ext w3 w4 := BL12.trans Lw4
    clear xw4
    replace bf8 := bf8.lower (lo' := w3.heap.size) qSo
    obtain ⟨afb9, cfb9, rfl⟩ := bf8.ints.form
    obtain ⟨efb9, dfb9, rfl⟩ := bf8.exps.form
    have q_bf8 := Lib.hid bf8.at
    go_wp2_with fail
    generalize hW9 : w4.alloc (.cells #[.slice afb9 cells.length cfb9, .slice efb9 es.length dfb9] 26) = w5 at *
    have Lw5 : Ext w4 w5 := by subst hW9; exact qXt
    have Xw5 : Ext w w5 := Xw4.trans Lw5
    replace b10 := Lw5.cell b10
    replace b11 := Lw5.cell b11
    replace b20 := Lw5.cell b20
    replace b21 := Lw5.cell b21
    replace f_b20 := Lw5.frz z_b2 f_b20
    replace f_b21 := Lw5.frz z_b2 f_b21
    have b130 : w5.cell? ⟨w4.heap.size, 0, none⟩ = some (.slice afb9 cells.length cfb9) := by subst hW9; exact qCl
    have b131 : w5.cell? ⟨w4.heap.size, 1, none⟩ = some (.slice efb9 es.length dfb9) := by subst hW9; exact qCl
    have z_b1 : w.heap.size < w5.heap.size := qB b10
    have z_b2 : w.heap.size + 1 < w5.heap.size := qB b20
    have z_b13 : w4.heap.size < w5.heap.size := qB b130
    replace i6 := i6.ext Lw5
    replace bf8 := bf8.ext Lw5
    have s_w5 : w.heap.size ≤ w5.heap.size := Xw5.size
    have BL12_w5 : Ext w3 w5 := BL12_w4.trans Lw5
    clear hW9
    obtain ⟨gr14, rr15, hvgr14, -⟩ := bf8.ex.big hesne.out
    injection hvgr14 with hvgr14a hvgr14b hvgr14c
    subst hvgr14a
    subst hvgr14c
    obtain ⟨hlgr14, hhgr14⟩ := q_bf8.out.e gr14 rfl
    obtain ⟨A16a, A16b⟩ := bf8.ex.cells rfl k 4 hlt (by omega)
    simp only [eCells, List.getElem?_cons_zero, List.getElem?_cons_succ] at A16a
    have S_bf8 := bf8.close rfl k hlt false
    replace S_bf8 := Lib.hid S_bf8
    replace bf8 := Lib.hid bf8
    go_wp2_with fail
    generalize hW10 : (w5.setCell ⟨gr14, k * 5 + 4, none⟩ (.bool false)) = w6 at *
    have Kw6 : Chg (gr14) (gr14 + 1) w5 w6 := by subst hW10; exact qCh
    have Xw6 : Ext w w6 := by subst hW10; exact qXt
    have BL12_w6 : Ext w3 w6 := by subst hW10; exact qXt
    replace b10 := BL12_w6.cell Q11_b10.out
    replace b11 := BL12_w6.cell Q11_b11.out
    replace b20 := BL12_w6.cell Q11_b20.out
    replace f_b20 := BL12_w6.frz Q11_zb2 Q11_f_b20.out
    replace b21 := BL12_w6.cell Q11_b21.out
    replace f_b21 := BL12_w6.frz Q11_zb2 Q11_f_b21.out
    replace b130 := Kw6.cell (by omega) b130
    replace b131 := Kw6.cell (by omega) b131
    replace i6 := (Q11_i6.out).ext BL12_w6
    clear Kw6
    have z_b1 : w.heap.size < w6.heap.size := qB b10
    have z_b2 : w.heap.size + 1 < w6.heap.size := qB b20
    have z_b13 : w4.heap.size < w6.heap.size := qB b130
    have s_w6 : w.heap.size ≤ w6.heap.size := Xw6.size
    clear hW10
    clear bf8 A16a A16b
    have bf8 := S_bf8.out
    clear S_bf8
    go_wp2_with fail
    generalize hW11 : ((w6.setCell ⟨w.heap.size + 1, 0, none⟩ (.slice afb9 cells.length cfb9)).setCell ⟨w.heap.size + 1, 1, none⟩ (.slice (some ⟨gr14, 0, none⟩) es.length dfb9)) = w7 at *
    have Kw7 : Chg (w.heap.size + 1) (w.heap.size + 1 + 1) w6 w7 := by subst hW11; exact qCh
    have Xw7 : Ext w w7 := by subst hW11; exact qXt
    replace b10 := Kw7.cell (by omega) b10
    replace b11 := Kw7.cell (by omega) b11
    replace b20 : w7.cell? ⟨w.heap.size + 1, 0, none⟩ = some (.slice afb9 cells.length cfb9) := by subst hW11; go_simp
    replace f_b20 : w7.frozen? ⟨w.heap.size + 1, 0, none⟩ = false := by subst hW11; first | (simp only [World.frozen?_setCell]; with_reducible assumption) | go_simp
    replace b21 : w7.cell? ⟨w.heap.size + 1, 1, none⟩ = some (.slice (some ⟨gr14, 0, none⟩) es.length dfb9) := by subst hW11; go_simp
    replace f_b21 : w7.frozen? ⟨w.heap.size + 1, 1, none⟩ = false := by subst hW11; first | (simp only [World.frozen?_setCell]; with_reducible assumption) | go_simp
    replace b130 := Kw7.cell (by omega) b130
    replace b131 := Kw7.cell (by omega) b131
    replace i6 := i6.chg Kw7 (by omega)
    replace bf8 := bf8.chg Kw7 (by omega)
    clear Kw7
    have z_b1 : w.heap.size < w7.heap.size := qB b10
    have z_b2 : w.heap.size + 1 < w7.heap.size := qB b20
    have z_b13 : w4.heap.size < w7.heap.size := qB b130
    have s_w7 : w.heap.size ≤ w7.heap.size := Xw7.size
    clear hW11
    refine bodyPost_ret (v := .tuple #[.agg #[.slice afb9 cells.length cfb9, .slice (some ⟨gr14, 0, none⟩) es.length dfb9], .bool true]) (by simp only [results, Try.results32]; go_simp) rfl ?_
    exact PBX.yes (by unfold relA; rw [hbb.out, hop.out, decide_eq_true (show (selL (kidP (k : Int)) es es.length).length = 0 by omega)]; rfl) ((bf8.ext qXt).lower (by omega)) (Xw7.trans qXt)


end Go.Proofs.Ytgklaobfikbiiaa

/- The builtin copy on a row of ints. No condition. -/
namespace Go.Proofs.Ytgklaobfikbiiaa
open Go.RowKit
set_option linter.unusedVariables false
set_option maxRecDepth 100000

/-- a list after another one was copied to its start -/
def cpL (xs ys : List Int) : List Int := ys.take xs.length ++ xs.drop ys.length
theorem cpL_len (xs ys : List Int) : (cpL xs ys).length = xs.length := by unfold cpL; simp; omega
theorem wpList_copyI {w : World} {ops : Array Oper} {rest : List Oper} {o : Oper} {a : Act} {Q : Exit → Act → World → Prop} (hgd : o.guard = none) (d s : Operand)
    (ho : o.op = .call { callee := .builtin .copy, args := #[d, s], argTypes := #[23, 23] }) {g n c base lo : Nat} {src : Value} {xs ys : List Int}
    (hd : a.eval d = .slice (some ⟨g, 0, none⟩) n c) (hs : a.eval s = src) (O : OwnI w base (.slice (some ⟨g, 0, none⟩) n c) xs) (I : Ints w lo src ys)
    (h : ∀ w' (r : Int), OwnI w' base (.slice (some ⟨g, 0, none⟩) n c) (cpL xs ys) → Chg g (g + 1) w w' → wpList Try.prog ops Q rest (a.put o.dst (goInt r)) w') : wpList Try.prog ops Q (o :: rest) a w := by
  have hsz : (Try.prog.info? 3).map (·.size) = some 1 := by kernel_rfl
  have hn : n = xs.length := by
    rcases O.2 with ⟨h2, _⟩ | ⟨g', cap, cur, hv, _⟩
    · cases h2
    · cases hv; rfl
  obtain ⟨p, cp, rfl⟩ := I.form
  by_cases h0 : min ys.length xs.length = 0
  · refine wpList_copy_nothing hgd d s 23 23 ho 3 Try.underlying23 hsz _ _ _ _ _ _ hd hs (by subst hn; exact h0) ?_
    have e : cpL xs ys = xs := by
      unfold cpL
      rcases Nat.eq_zero_or_pos ys.length with hy | hy
      · obtain rfl := List.eq_nil_of_length_eq_zero hy; simp
      · obtain rfl := List.eq_nil_of_length_eq_zero (show xs.length = 0 by omega); simp
    exact h w 0 (by rw [e]; exact O) (Chg.refl _ _ _)
  · obtain ⟨b, of, rfl, -⟩ := I.at 0 (by omega)
    obtain ⟨hl, hO⟩ := O
    rcases hO with ⟨h2, _⟩ | ⟨g', cap, cur, hv, hb, hh, hc1, hc2, hcs, htk⟩
    · cases h2
    · cases hv
      clear hn
      have hcl : ((ys.take xs.length).map (Value.int .i64)).length = min ys.length xs.length := by simp; omega
      have hcur : xs.length ≤ cur.size := by omega
      refine wpList_copy_own hgd d s 23 23 ho 3 Try.underlying23 hsz g 0 _ _ ⟨b, of, none⟩ _ _ hd hs cur 3 hh ((ys.take xs.length).map (Value.int .i64)) (by rw [hcl]) ?_ (by rw [hcl]; omega) ?_ ?_
      · intro j v hj
        rw [List.getElem?_map, List.getElem?_take] at hj
        split at hj
        · rename_i hjx
          rcases Nat.lt_or_ge j ys.length with hjy | hjy
          · obtain ⟨b', of', e, hc⟩ := I.at j hjy
            cases e
            rw [List.getElem?_eq_getElem hjy] at hj
            have e7 : (⟨b, of, none⟩ : Addr).add j = ⟨b, of + j, none⟩ := by unfold Addr.add; split <;> simp_all
            rw [e7, hc, List.getD_eq_getElem?_getD, List.getElem?_eq_getElem hjy]
            simpa using hj
          · rw [List.getElem?_eq_none hjy] at hj; cases hj
        · cases hj
      · intro v hv
        obtain ⟨x, -, rfl⟩ := List.mem_map.1 hv
        rfl
      · rw [hcl]
        have hset := fun cs => setRow_heap w g cur cs 3 (0, 0) hh
        refine h _ _ ⟨by simp, .inr ⟨g, c, _, (by rw [cpL_len]), hb, hset _, by rw [cpL_len]; exact hc1, hc2, ?_, ?_⟩⟩ ⟨rfl, rfl, rfl, by simp [World.setRow], fun k hk hne => setRow_other w g k _ (by omega)⟩
        · simp; omega
        · rw [cpL_len]
          unfold cpL
          simp only [List.take_zero, List.nil_append, Nat.zero_add, List.map_append, Nat.mul_one] at htk ⊢
          rw [List.take_append, hcl, List.take_of_length_le (by rw [hcl]; omega)]
          refine congrArg (List.map (Value.int .i64) (ys.take xs.length) ++ ·) ?_
          rw [List.map_drop, ← htk]
          rcases Nat.le_total ys.length xs.length with hle | hle
          · rw [Nat.min_eq_left hle, List.drop_take]
          · rw [Nat.min_eq_right hle, Nat.sub_self, List.take_zero, List.drop_eq_nil_of_le (by rw [List.length_take]; omega)]
end Go.Proofs.Ytgklaobfikbiiaa

/- Walks: ResizeBuffer of both. -/
namespace Go.Proofs.Ytgklaobfikbiiaa
open Go.RowKit
set_option linter.unusedVariables false
set_option maxRecDepth 100000


theorem fit_step {xs : List Int} {N k : Nat} (h1 : k < N) (h2 : k < xs.length) : xs.take (k+1) ++ List.replicate (N - (k+1)) 0 = (xs.take k ++ List.replicate (N - k) 0).set k (xs.getD k 0) := by
 refine List.ext_getElem (by simp; omega) fun j a b => ?_
 rw [List.getElem_set]
 simp only [List.getElem_append, List.length_take, List.getElem_take, List.getElem_replicate]
 by_cases hj : k = j
 ·
  subst hj
  rw [if_pos rfl, dif_pos (by omega), List.getD_eq_getElem?_getD, List.getElem?_eq_getElem h2]; rfl
 ·
  rw [if_neg hj]
  by_cases hk : j < k
  ·
   rw [dif_pos (by omega), dif_pos (by omega)]
  ·
   rw [dif_neg (by omega), dif_neg (by omega)]
theorem fit_end {xs : List Int} {N k : Nat} (h : (k ≤ N ∧ k ≤ xs.length) ∧ (k = N ∨ k = xs.length)) : xs.take k ++ List.replicate (N - k) 0 = fitL xs N := by
 unfold fitL
 rcases h.2 with rfl | rfl
 ·
  rw [Nat.sub_self, show k - xs.length = 0 by omega]
 ·
  rw [List.take_of_length_le (Nat.le_refl _), List.take_of_length_le (by omega)]

set_option maxHeartbeats 3200000 in
theorem specResizeBuffer_c (cells : List Int) (es : List Exp) (cv ev : Value) (n : Int) (w : World) (l1 l2 : Nat) (h1 : Ints w l1 cv cells) (h2 : Exps w l2 ev es) :
  Calls Try.prog 15 #[.agg #[cv, ev], .int .i64 n] w (PBX w (resA cells es n)) := by
 obtain ⟨p0, c0, rfl⟩ := h1.form
 obtain ⟨p1, c1, rfl⟩ := h2.form
 have he1 := h2.len
 have hc1 := h1.len
 go_enter Try.func15, Try.ntmps15
 go_wp2_with fail
 refine (validBuffer_c cells es (.slice p0 cells.length c0) (.slice p1 es.length c1) _ _ _ (h1.ext qXt) (h2.ext qXt)).mono ?_
 rintro e w1 ⟨rfl, xw1⟩
 have Lw1 : Ext w w1 := Ext.trans qXt xw1
 have Xw1 : Ext w w1 := Lw1
 have b10 : w1.cell? ⟨w.heap.size, 0, none⟩ = some (.slice p0 cells.length c0) := xw1.cell qCl
 have b11 : w1.cell? ⟨w.heap.size, 1, none⟩ = some (.slice p1 es.length c1) := xw1.cell qCl
 have b20 : w1.cell? ⟨w.heap.size + 1, 0, none⟩ = some (.slice none 0 0) := xw1.cell qCl
 have b21 : w1.cell? ⟨w.heap.size + 1, 1, none⟩ = some (.slice none 0 0) := xw1.cell qCl
 have f_b20 : w1.frozen? ⟨w.heap.size + 1, 0, none⟩ = false := xw1.frz (by simp <;> omega) qFz
 have f_b21 : w1.frozen? ⟨w.heap.size + 1, 1, none⟩ = false := xw1.frz (by simp <;> omega) qFz
 have z_b1 : w.heap.size < w1.heap.size := qB b10
 have z_b2 : w.heap.size + 1 < w1.heap.size := qB b20
 have s_w1 : w.heap.size ≤ w1.heap.size := Xw1.size
 clear xw1
 cases hB3 : bufB cells es
 ·
  replace hB3 := Lib.hid hB3
  go_wp2_with fail
  generalize hW1 : ((w1.setCell ⟨w.heap.size + 1, 0, none⟩ (.slice none 0 0)).setCell ⟨w.heap.size + 1, 1, none⟩ (.slice none 0 0)) = w2 at *
  have Kw2 : Chg (w.heap.size + 1) (w.heap.size + 1 + 1) w1 w2 := by subst hW1; exact qCh
  have Xw2 : Ext w w2 := by subst hW1; exact qXt
  replace b10 := Kw2.cell (by omega) b10
  replace b11 := Kw2.cell (by omega) b11
  replace b20 : w2.cell? ⟨w.heap.size + 1, 0, none⟩ = some (.slice none 0 0) := by subst hW1; go_simp
  replace f_b20 : w2.frozen? ⟨w.heap.size + 1, 0, none⟩ = false := by subst hW1; first | (simp only [World.frozen?_setCell]; with_reducible assumption) | go_simp
  replace b21 : w2.cell? ⟨w.heap.size + 1, 1, none⟩ = some (.slice none 0 0) := by subst hW1; go_simp
  replace f_b21 : w2.frozen? ⟨w.heap.size + 1, 1, none⟩ = false := by subst hW1; first | (simp only [World.frozen?_setCell]; with_reducible assumption) | go_simp
  clear Kw2
  have z_b1 : w.heap.size < w2.heap.size := qB b10
  have z_b2 : w.heap.size + 1 < w2.heap.size := qB b20
  have s_w2 : w.heap.size ≤ w2.heap.size := Xw2.size
  clear hW1
  refine bodyPost_ret (v := .tuple #[.agg #[.slice none 0 0, .slice none 0 0], .bool false]) (by simp only [results, Try.results15]; go_simp) rfl ?_
  exact PBX.no (by unfold resA; rw [hB3.out]; rfl) (Xw2.trans qXt)
 ·
  replace hB3 := Lib.hid hB3
  have hbb : Hid (bufB cells es = true) := Lib.hid hB3.out
  have hoa : Hid (openA cells es = selL opP es es.length) := Lib.hid (by unfold openA; rw [hbb.out]; rfl)
  have hc60 := (bufB_in hbb.out).2.1
  go_wp2_with fail
  refine (inRange_c n 0 60 _).mono ?_
  rintro e w' ⟨rfl, rfl⟩
  cases hB4 : inB 0 60 n
  ·
   replace hB4 := Lib.hid hB4
   go_wp2_with fail
   generalize hW2 : ((w1.setCell ⟨w.heap.size + 1, 0, none⟩ (.slice none 0 0)).setCell ⟨w.heap.size + 1, 1, none⟩ (.slice none 0 0)) = w2 at *
   have Kw2 : Chg (w.heap.size + 1) (w.heap.size + 1 + 1) w1 w2 := by subst hW2; exact qCh
   have Xw2 : Ext w w2 := by subst hW2; exact qXt
   replace b10 := Kw2.cell (by omega) b10
   replace b11 := Kw2.cell (by omega) b11
   replace b20 : w2.cell? ⟨w.heap.size + 1, 0, none⟩ = some (.slice none 0 0) := by subst hW2; go_simp
   replace f_b20 : w2.frozen? ⟨w.heap.size + 1, 0, none⟩ = false := by subst hW2; first | (simp only [World.frozen?_setCell]; with_reducible assumption) | go_simp
   replace b21 : w2.cell? ⟨w.heap.size + 1, 1, none⟩ = some (.slice none 0 0) := by subst hW2; go_simp
   replace f_b21 : w2.frozen? ⟨w.heap.size + 1, 1, none⟩ = false := by subst hW2; first | (simp only [World.frozen?_setCell]; with_reducible assumption) | go_simp
   clear Kw2
   have z_b1 : w.heap.size < w2.heap.size := qB b10
   have z_b2 : w.heap.size + 1 < w2.heap.size := qB b20
   have s_w2 : w.heap.size ≤ w2.heap.size := Xw2.size
   clear hW2
   refine bodyPost_ret (v := .tuple #[.agg #[.slice none 0 0, .slice none 0 0], .bool false]) (by simp only [results, Try.results15]; go_simp) rfl ?_
   exact PBX.no (by unfold resA; rw [hbb.out, hB4.out]; rfl) (Xw2.trans qXt)
  ·
   replace hB4 := Lib.hid hB4
   have hin : Hid (inB 0 60 n = true) := Lib.hid hB4.out
   obtain ⟨hn0, hn60⟩ : 0 ≤ n ∧ n ≤ 60 := by have h7 := hB4.out; unfold inB at h7; simp only [Bool.and_eq_true, decide_eq_true_eq] at h7; omega
   obtain ⟨N, rfl⟩ : ∃ N : Nat, n = N := ⟨n.toNat, by omega⟩
   go_wp2_with fail
   refine (pi_eq hoa.out (specOpenOf_c cells es (.slice p0 cells.length c0) (.slice p1 es.length c1) _ _ _ (h1.ext (Xw1.trans qXt)) (h2.ext (Xw1.trans qXt)))).mono ?_
   rintro e w2 ⟨fv5, rfl, i6, -, xw2⟩
   have Lw2 : Ext w1 w2 := Ext.trans qXt xw2
   have Xw2 : Ext w w2 := Xw1.trans Lw2
   replace b10 := Lw2.cell b10
   replace b11 := Lw2.cell b11
   replace b20 := Lw2.cell b20
   replace b21 := Lw2.cell b21
   replace f_b20 := Lw2.frz z_b2 f_b20
   replace f_b21 := Lw2.frz z_b2 f_b21
   have z_b1 : w.heap.size < w2.heap.size := qB b10
   have z_b2 : w.heap.size + 1 < w2.heap.size := qB b20
   have s_w2 : w.heap.size ≤ w2.heap.size := Xw2.size
   clear xw2
   obtain ⟨afv5, cfv5, rfl⟩ := i6.form
   by_cases hc7 : (0 : Int) < ((selL opP es es.length).length : Int)
   ·
    go_wp2_with fail
    generalize hW3 : ((w2.setCell ⟨w.heap.size + 1, 0, none⟩ (.slice none 0 0)).setCell ⟨w.heap.size + 1, 1, none⟩ (.slice none 0 0)) = w3 at *
    have Kw3 : Chg (w.heap.size + 1) (w.heap.size + 1 + 1) w2 w3 := by subst hW3; exact qCh
    have Xw3 : Ext w w3 := by subst hW3; exact qXt
    replace b10 := Kw3.cell (by omega) b10
    replace b11 := Kw3.cell (by omega) b11
    replace b20 : w3.cell? ⟨w.heap.size + 1, 0, none⟩ = some (.slice none 0 0) := by subst hW3; go_simp
    replace f_b20 : w3.frozen? ⟨w.heap.size + 1, 0, none⟩ = false := by subst hW3; first | (simp only [World.frozen?_setCell]; with_reducible assumption) | go_simp
    replace b21 : w3.cell? ⟨w.heap.size + 1, 1, none⟩ = some (.slice none 0 0) := by subst hW3; go_simp
    replace f_b21 : w3.frozen? ⟨w.heap.size + 1, 1, none⟩ = false := by subst hW3; first | (simp only [World.frozen?_setCell]; with_reducible assumption) | go_simp
    replace i6 := i6.chg Kw3 (by omega)
    clear Kw3
    have z_b1 : w.heap.size < w3.heap.size := qB b10
    have z_b2 : w.heap.size + 1 < w3.heap.size := qB b20
    have s_w3 : w.heap.size ≤ w3.heap.size := Xw3.size
    clear hW3
    refine bodyPost_ret (v := .tuple #[.agg #[.slice none 0 0, .slice none 0 0], .bool false]) (by simp only [results, Try.results15]; go_simp) rfl ?_
    exact PBX.no (by unfold resA; rw [hbb.out, hin.out, decide_eq_false (show ¬ (selL opP es es.length).length = 0 by omega)]; rfl) (Xw3.trans qXt)
   ·
    go_wp2_with fail
    have Q11_b10 := Lib.hid b10
    have Q11_b11 := Lib.hid b11
    have Q11_zb1 := z_b1
    have Q11_b20 := Lib.hid b20
    have Q11_f_b20 := Lib.hid f_b20
    have Q11_b21 := Lib.hid b21
    have Q11_f_b21 := Lib.hid f_b21
    have Q11_zb2 := z_b2
    have Q11_i6 := Lib.hid i6
    have BL12 : Ext w2 w2 := Ext.refl _
    refine (specCopyBuffer_c cells es (.slice p0 cells.length c0) (.slice p1 es.length c1) _ _ _ (h1.ext (Xw2.trans qXt)) (h2.ext (Xw2.trans qXt))).mono ?_
    rintro e w3 ⟨cvfb9, evfb9, R10, rfl, bf8, xw3⟩
    have Lw3 : Ext w2 w3 := Ext.trans qXt xw3
    have Xw3 : Ext w w3 := Xw2.trans Lw3
    replace b10 := Lw3.cell b10
    replace b11 := Lw3.cell b11
    replace b20 := Lw3.cell b20
    replace b21 := Lw3.cell b21
    replace f_b20 := Lw3.frz z_b2 f_b20
    replace f_b21 := Lw3.frz z_b2 f_b21
    have z_b1 : w.heap.size < w3.heap.size := qB b10
    have z_b2 : w.heap.size + 1 < w3.heap.size := qB b20
    replace i6 := i6.ext Lw3
    have s_w3 : w.heap.size ≤ w3.heap.size := Xw3.size
    have BL12_w3 : Ext w2 w3 := BL12.trans Lw3
    clear xw3
    replace bf8 := bf8.lower (lo' := w2.heap.size) qSo
    obtain ⟨afb9, cfb9, rfl⟩ := bf8.ints.form
    obtain ⟨efb9, dfb9, rfl⟩ := bf8.exps.form
    have q_bf8 := Lib.hid bf8.at
    have Q13_b10 := Lib.hid b10
    have Q13_b11 := Lib.hid b11
    have Q13_zb1 := z_b1
    have Q13_b20 := Lib.hid b20
    have Q13_f_b20 := Lib.hid f_b20
    have Q13_b21 := Lib.hid b21
    have Q13_f_b21 := Lib.hid f_b21
    have Q13_zb2 := z_b2
    have Q13_i6 := Lib.hid i6
    have Q13_bf8 := Lib.hid bf8
    have BL14 : Ext w3 w3 := Ext.refl _
    go_upto_region 4 with fail
    have zn_BL12_w4 := (BL12_w3).size
    have zn_BL14_w4 := (BL14).size
    generalize hW4 : w3.alloc (.cells #[.slice afb9 cells.length cfb9, .slice efb9 es.length dfb9] 26) = w4 at *
    have Lw4 : Ext w3 w4 := by subst hW4; exact qXt
    have Xw4 : Ext w w4 := Xw3.trans Lw4
    replace b10 := Lw4.cell b10
    replace b11 := Lw4.cell b11
    replace b20 := Lw4.cell b20
    replace b21 := Lw4.cell b21
    replace f_b20 := Lw4.frz z_b2 f_b20
    replace f_b21 := Lw4.frz z_b2 f_b21
    have b150 : w4.cell? ⟨w3.heap.size, 0, none⟩ = some (.slice afb9 cells.length cfb9) := by subst hW4; exact qCl
    have b151 : w4.cell? ⟨w3.heap.size, 1, none⟩ = some (.slice efb9 es.length dfb9) := by subst hW4; exact qCl
    have f_b150 : w4.frozen? ⟨w3.heap.size, 0, none⟩ = false := by subst hW4; exact qFz
    have f_b151 : w4.frozen? ⟨w3.heap.size, 1, none⟩ = false := by subst hW4; exact qFz
    have z_b1 : w.heap.size < w4.heap.size := qB b10
    have z_b2 : w.heap.size + 1 < w4.heap.size := qB b20
    have z_b15 : w3.heap.size < w4.heap.size := qB b150
    replace i6 := i6.ext Lw4
    replace bf8 := bf8.ext Lw4
    have s_w4 : w.heap.size ≤ w4.heap.size := Xw4.size
    have BL12_w4 : Ext w2 w4 := BL12_w3.trans Lw4
    have BL14_w4 : Ext w3 w4 := BL14.trans Lw4
    clear hW4
    have zBL12_mw4 := (BL12_w4).size
    have zBL14_mw4 := (BL14_w4).size
    have Q16_b10 := Lib.hid b10
    have Q16_b11 := Lib.hid b11
    have Q16_zb1 := z_b1
    have Q16_b20 := Lib.hid b20
    have Q16_f_b20 := Lib.hid f_b20
    have Q16_b21 := Lib.hid b21
    have Q16_f_b21 := Lib.hid f_b21
    have Q16_zb2 := z_b2
    have Q16_b150 := Lib.hid b150
    have Q16_f_b150 := Lib.hid f_b150
    have Q16_b151 := Lib.hid b151
    have Q16_f_b151 := Lib.hid f_b151
    have Q16_zb15 := z_b15
    have Q16_i6 := Lib.hid i6
    have Q16_bf8 := Lib.hid bf8
    have BL17 : Ext w4 w4 := Ext.refl _
    obtain ⟨i0mk18, himk18, hz0mk18, hz1mk18, hz2mk18⟩ := info_parts infoInt
    go_wp2_with (at_make; refine wpList_make_full _ rfl _ _ 23 rfl w4.heap.size 3 i0mk18 (.int .i64 0) 1 Try.underlying23 himk18 hz0mk18 hz1mk18 .i64 .i64 _ _ N rfl rfl rfl rfl (by rw [hz2mk18]; omega) (by unfold maxLen; omega) (Nat.le_refl _) ?_)
    intro w5 hown7 hgr7
    have xw5 : Ext w4 w5 := (Ext.refl w4).grown hgr7 (by simp)
    rw [made_ints] at hown7
    clear hgr7
    have O19 : OwnI w5 w4.heap.size (.slice (some ⟨w4.heap.size, 0, none⟩) N N) (List.replicate N 0) := by unfold OwnI; simpa using hown7
    clear hown7 himk18 hz0mk18 hz1mk18 hz2mk18
    have Lw5 : Ext w4 w5 := Ext.trans qXt xw5
    have Xw5 : Ext w w5 := Xw4.trans Lw5
    replace b10 := Lw5.cell b10
    replace b11 := Lw5.cell b11
    replace b20 := Lw5.cell b20
    replace b21 := Lw5.cell b21
    replace f_b20 := Lw5.frz z_b2 f_b20
    replace f_b21 := Lw5.frz z_b2 f_b21
    replace b150 := Lw5.cell b150
    replace b151 := Lw5.cell b151
    replace f_b150 := Lw5.frz z_b15 f_b150
    replace f_b151 := Lw5.frz z_b15 f_b151
    have z_b1 : w.heap.size < w5.heap.size := qB b10
    have z_b2 : w.heap.size + 1 < w5.heap.size := qB b20
    have z_b15 : w3.heap.size < w5.heap.size := qB b150
    replace i6 := i6.ext Lw5
    replace bf8 := bf8.ext Lw5
    have s_w5 : w.heap.size ≤ w5.heap.size := Xw5.size
    have BL12_w5 : Ext w2 w5 := BL12_w4.trans Lw5
    have BL14_w5 : Ext w3 w5 := BL14_w4.trans Lw5
    have BL17_w5 : Ext w4 w5 := BL17.trans Lw5
    clear xw5
    skip
    go_wp2_with fail
    generalize hW5 : (w5.setCell ⟨w3.heap.size, 0, none⟩ (.slice (some ⟨w4.heap.size, 0, none⟩) N N)) = w6 at *
    have Kw6 : Chg (w3.heap.size) (w3.heap.size + 1) w5 w6 := by subst hW5; exact qCh
    have Xw6 : Ext w w6 := by subst hW5; exact qXt
    have BL12_w6 : Ext w2 w6 := by subst hW5; exact qXt
    have BL14_w6 : Ext w3 w6 := by subst hW5; exact qXt
    replace b10 := BL14_w6.cell Q13_b10.out
    replace b11 := BL14_w6.cell Q13_b11.out
    replace b20 := BL14_w6.cell Q13_b20.out
    replace f_b20 := BL14_w6.frz Q13_zb2 Q13_f_b20.out
    replace b21 := BL14_w6.cell Q13_b21.out
    replace f_b21 := BL14_w6.frz Q13_zb2 Q13_f_b21.out
    replace b150 : w6.cell? ⟨w3.heap.size, 0, none⟩ = some (.slice (some ⟨w4.heap.size, 0, none⟩) N N) := by subst hW5; go_simp
    replace f_b150 : w6.frozen? ⟨w3.heap.size, 0, none⟩ = false := by subst hW5; first | (simp only [World.frozen?_setCell]; with_reducible assumption) | go_simp
    replace b151 : w6.cell? ⟨w3.heap.size, 1, none⟩ = some (.slice efb9 es.length dfb9) := by subst hW5; go_simp
    replace f_b151 : w6.frozen? ⟨w3.heap.size, 1, none⟩ = false := by subst hW5; first | (simp only [World.frozen?_setCell]; with_reducible assumption) | go_simp
    replace i6 := (Q13_i6.out).ext BL14_w6
    replace bf8 := (Q13_bf8.out).ext BL14_w6
    replace O19 := O19.chgN Kw6 (by omega)
    clear Kw6
    have z_b1 : w.heap.size < w6.heap.size := qB b10
    have z_b2 : w.heap.size + 1 < w6.heap.size := qB b20
    have z_b15 : w3.heap.size < w6.heap.size := qB b150
    have s_w6 : w.heap.size ≤ w6.heap.size := Xw6.size
    clear hW5
    replace bf8 := BufT.of bf8 q_bf8.out
    clear i6
    go_loopw [7] (fun i wr => ∃ (k : Nat), k ≤ N ∧ k ≤ cells.length ∧ i = .int .i64 k ∧ OwnI wr (w4.heap.size) (.slice (some ⟨w4.heap.size, 0, none⟩) N N) (cells.take k ++ List.replicate (N - k) 0) ∧ Chg (w4.heap.size) (w4.heap.size + 1) w6 wr) (fun i _ => N - (intOf i).toNat)
    case atStart => exact ⟨0, Nat.zero_le _, Nat.zero_le _, rfl, (show OwnI _ _ _ (cells.take 0 ++ List.replicate (N - 0) 0) from (O19.ext qXt)), Chg.refl _ _ _⟩
    case round =>
     obtain ⟨k, hk, hkc, rfl, O19n, Kr20⟩ := hrel
     have Xwr : Ext w wr := Ext.chg Xw6 Kr20 (by omega)
     have s_wr : w.heap.size ≤ wr.heap.size := Xwr.size
     have t_wr : w6.heap.size ≤ wr.heap.size := Kr20.size
     replace b10 := Kr20.cell (by omega) b10
     replace b11 := Kr20.cell (by omega) b11
     replace b20 := Kr20.cell (by omega) b20
     replace f_b20 := Kr20.frzO (by omega) (by omega) f_b20
     replace b21 := Kr20.cell (by omega) b21
     replace f_b21 := Kr20.frzO (by omega) (by omega) f_b21
     replace b150 := Kr20.cell (by omega) b150
     replace f_b150 := Kr20.frzO (by omega) (by omega) f_b150
     replace b151 := Kr20.cell (by omega) b151
     replace f_b151 := Kr20.frzO (by omega) (by omega) f_b151
     have z_b1 : w.heap.size < wr.heap.size := qB b10
     have z_b2 : w.heap.size + 1 < wr.heap.size := qB b20
     have z_b15 : w3.heap.size < wr.heap.size := qB b150
     replace bf8 := bf8.chg Kr20 (by omega)
     clear O19
     have O19 := O19n
     clear O19n
     rcases (show (k < N ∧ k < cells.length) ∨ ¬ k < N ∨ (k < N ∧ ¬ k < cells.length) by omega) with hlt | hlt | hlt
     ·
      have hkI : (k : Int) < (N : Int) := by omega
      have hkJ : (k : Int) < (cells.length : Int) := by omega
      have hs := Lib.hid (fit_step (xs := cells) hlt.1 hlt.2)
      go_wp2_with fail
      have hN_e23 : k < cells.length := hlt.2
      have hI_e23 : (k : Int) < (cells.length : Int) := by omega
      obtain ⟨bl21, ol22, rfl, e230⟩ := h1.at k hlt.2
      have y_e23 : bl21 < w.heap.size := qB e230
      replace e230 := Xwr.cell e230
      obtain ⟨v24, hv24⟩ : ∃ v, cells.getD k 0 = v := ⟨_, rfl⟩
      rw [hv24] at e230
      replace hv24 := Lib.hid hv24
      have z_e23 : bl21 < wr.heap.size := qB e230
      have A25 := O19.cell k (by simp only [List.length_append, List.length_take, List.length_replicate]; omega)
      obtain ⟨A25a, A25b⟩ := A25
      refine wp_region_tail (S := fun w' => w'.cell? ⟨w.heap.size, 0, none⟩ = some (.slice (some ⟨bl21, ol22, none⟩) cells.length c0) ∧ w'.cell? ⟨w3.heap.size, 0, none⟩ = some (.slice (some ⟨w4.heap.size, 0, none⟩) N N) ∧ w'.cell? ⟨bl21, ol22 + k, none⟩ = some (.int .i64 v24)) (fun i => decide (9 ≤ i)) qKr ⟨b10, b150, e230⟩ (fun hHeld => ?_)
      refine qTk (v := ?_) 0 rfl (.inl ⟨by rfl, ?_⟩) ?_
      rotate_left
      ·
       (intro w hSw; (try dsimp only at hSw); go_simp; try with_reducible rfl)
      try simp only [Act.put, qa, qb, qc, qD, qE, qF]
      refine qTk (v := ?_) 1 rfl (.inl ⟨by rfl, ?_⟩) ?_
      rotate_left
      ·
       (intro w hSw; (try dsimp only at hSw); go_simp; try with_reducible rfl)
      try simp only [Act.put, qa, qb, qc, qD, qE, qF]
      refine qTk (v := ?_) 2 rfl (.inl ⟨by rfl, ?_⟩) ?_
      rotate_left
      ·
       (intro w hSw; (try dsimp only at hSw); go_simp; try with_reducible rfl)
      try simp only [Act.put, qa, qb, qc, qD, qE, qF]
      refine qTk (v := ?_) 3 rfl (.inl ⟨by rfl, ?_⟩) ?_
      rotate_left
      ·
       (intro w hSw; (try dsimp only at hSw); go_simp; try with_reducible rfl)
      try simp only [Act.put, qa, qb, qc, qD, qE, qF]
      refine qTk (v := ?_) 4 rfl (.inl ⟨by rfl, ?_⟩) ?_
      rotate_left
      ·
       (intro w hSw; (try dsimp only at hSw); go_simp; try with_reducible rfl)
      try simp only [Act.put, qa, qb, qc, qD, qE, qF]
      refine qTk (v := ?_) 5 rfl (.inl ⟨by rfl, ?_⟩) ?_
      rotate_left
      ·
       (intro w hSw; (try dsimp only at hSw); go_simp; try with_reducible rfl)
      try simp only [Act.put, qa, qb, qc, qD, qE, qF]
      refine qTk (v := ?_) 6 rfl (.inl ⟨by rfl, ?_⟩) ?_
      rotate_left
      ·
       (intro w hSw; (try dsimp only at hSw); go_simp; try with_reducible rfl)
      try simp only [Act.put, qa, qb, qc, qD, qE, qF]
      refine qTk (v := ?_) 7 rfl (.inl ⟨by rfl, ?_⟩) ?_
      rotate_left
      ·
       (intro w hSw; (try dsimp only at hSw); go_simp; try with_reducible rfl)
      try simp only [Act.put, qa, qb, qc, qD, qE, qF]
      refine qTk (v := ?_) 8 rfl (.inl ⟨by rfl, ?_⟩) ?_
      rotate_left
      ·
       (intro w hSw; (try dsimp only at hSw); go_simp; try with_reducible rfl)
      try simp only [Act.put, qa, qb, qc, qD, qE, qF]
      refine wpTail_last (i := 9) qKr rfl rfl (fun K hK => ?_)
      try simp only [Act.put, qa, qb, qc, qD, qE, qF]
      go_simp
      refine hK.out _ _ ?_
      clear hK K
      try simp only [Act.put, qa, qb, qc, qD, qE, qF]
      refine wpTail_done qKr ?_ _
      clear hHeld 
      clear e230 z_e23
      generalize hW6 : ((wr.setCell ⟨w4.heap.size, k, none⟩ (.int .i64 v24)).drew) = w7 at *
      have Kw7 : Chg (w4.heap.size) (w4.heap.size + 1) wr w7 := by subst hW6; exact qCh
      have Xw7 : Ext w w7 := by subst hW6; exact qXt
      have Kr20_w7 : Chg w4.heap.size (w4.heap.size + 1) w6 w7 := Chg.trans Kr20 Kw7
      replace b10 := Kw7.cell (by omega) b10
      replace b11 := Kw7.cell (by omega) b11
      replace b20 := Kw7.cell (by omega) b20
      replace f_b20 := Kw7.frzO (by omega) z_b2 f_b20
      replace b21 := Kw7.cell (by omega) b21
      replace f_b21 := Kw7.frzO (by omega) z_b2 f_b21
      replace b150 := Kw7.cell (by omega) b150
      replace f_b150 := Kw7.frzO (by omega) z_b15 f_b150
      replace b151 := Kw7.cell (by omega) b151
      replace f_b151 := Kw7.frzO (by omega) z_b15 f_b151
      replace bf8 := bf8.chg Kw7 (by omega)
      have n_O19 := O19.setD k (v24) (by first | omega | (simp; omega) | (rw [putUp_len]; simp; omega) | (rw [addUp_len]; omega))
      rw [hW6] at n_O19
      replace O19 := n_O19
      clear n_O19
      clear Kw7
      have z_b1 : w.heap.size < w7.heap.size := qB b10
      have z_b2 : w.heap.size + 1 < w7.heap.size := qB b20
      have z_b15 : w3.heap.size < w7.heap.size := qB b150
      have s_w7 : w.heap.size ≤ w7.heap.size := Xw7.size
      clear hW6
      clear A25a A25b
      go_wp2_with fail
      go_roundw
      case rel => exact ⟨k + 1, by omega, by omega, by go_num, (by rw [hs.out, hv24.out]; exact O19.ext qXt), Kr20_w7.ext qXt⟩
      case measure => simp [intOf]; omega
     ·
      have hkI : ¬ (k : Int) < (N : Int) := by omega
      go_wp2_with fail
      generalize hW7 : ((wr.setCell ⟨w.heap.size + 1, 0, none⟩ (.slice (some ⟨w4.heap.size, 0, none⟩) N N)).setCell ⟨w.heap.size + 1, 1, none⟩ (.slice efb9 es.length dfb9)) = w7 at *
      have Kw7 : Chg (w.heap.size + 1) (w.heap.size + 1 + 1) wr w7 := by subst hW7; exact qCh
      have Xw7 : Ext w w7 := by subst hW7; exact qXt
      replace b10 := Kw7.cell (by omega) b10
      replace b11 := Kw7.cell (by omega) b11
      replace b20 : w7.cell? ⟨w.heap.size + 1, 0, none⟩ = some (.slice (some ⟨w4.heap.size, 0, none⟩) N N) := by subst hW7; go_simp
      replace f_b20 : w7.frozen? ⟨w.heap.size + 1, 0, none⟩ = false := by subst hW7; first | (simp only [World.frozen?_setCell]; with_reducible assumption) | go_simp
      replace b21 : w7.cell? ⟨w.heap.size + 1, 1, none⟩ = some (.slice efb9 es.length dfb9) := by subst hW7; go_simp
      replace f_b21 : w7.frozen? ⟨w.heap.size + 1, 1, none⟩ = false := by subst hW7; first | (simp only [World.frozen?_setCell]; with_reducible assumption) | go_simp
      replace b150 := Kw7.cell (by omega) b150
      replace f_b150 := Kw7.frzO (by omega) z_b15 f_b150
      replace b151 := Kw7.cell (by omega) b151
      replace f_b151 := Kw7.frzO (by omega) z_b15 f_b151
      replace bf8 := bf8.chg Kw7 (by omega)
      replace O19 := O19.chgN Kw7 (by omega)
      clear Kw7
      have z_b1 : w.heap.size < w7.heap.size := qB b10
      have z_b2 : w.heap.size + 1 < w7.heap.size := qB b20
      have z_b15 : w3.heap.size < w7.heap.size := qB b150
      have s_w7 : w.heap.size ≤ w7.heap.size := Xw7.size
      clear hW7
      refine bodyPost_ret (v := .tuple #[.agg #[.slice (some ⟨w4.heap.size, 0, none⟩) N N, .slice efb9 es.length dfb9], .bool true]) (by simp only [results, Try.results15]; go_simp) rfl ?_
      have eqA : resA cells es (N : Int) = (fitL cells N, es, true) := by unfold resA; rw [hbb.out, hin.out, decide_eq_true (show (selL opP es es.length).length = 0 by omega), Int.toNat_natCast]; rfl
      rw [show cells.take k ++ List.replicate (N - k) 0 = fitL cells N by exact fit_end (by omega)] at O19
      exact PBX.yes eqA ((bf8.buf.cellsQ (lo2 := w.heap.size) (by omega) q_bf8.out ((O19.lower (base' := w.heap.size) (by omega)).z) (CapZ.same (by rw [fitL_len])) (by rw [fitL_len]; omega) (fun _ g7 hg7 => by have h9 : w4.heap.size = g7 := Option.some.inj hg7; omega)).ext qXt) (Xw7.trans qXt)
     ·
      have hkI : (k : Int) < (N : Int) := by omega
      have hkJ : ¬ (k : Int) < (cells.length : Int) := by omega
      go_wp2_with fail
      generalize hW8 : ((wr.setCell ⟨w.heap.size + 1, 0, none⟩ (.slice (some ⟨w4.heap.size, 0, none⟩) N N)).setCell ⟨w.heap.size + 1, 1, none⟩ (.slice efb9 es.length dfb9)) = w7 at *
      have Kw7 : Chg (w.heap.size + 1) (w.heap.size + 1 + 1) wr w7 := by subst hW8; exact qCh
      have Xw7 : Ext w w7 := by subst hW8; exact qXt
      replace b10 := Kw7.cell (by omega) b10
      replace b11 := Kw7.cell (by omega) b11
      replace b20 : w7.cell? ⟨w.heap.size + 1, 0, none⟩ = some (.slice (some ⟨w4.heap.size, 0, none⟩) N N) := by subst hW8; go_simp
      replace f_b20 : w7.frozen? ⟨w.heap.size + 1, 0, none⟩ = false := by subst hW8; first | (simp only [World.frozen?_setCell]; with_reducible assumption) | go_simp
      replace b21 : w7.cell? ⟨w.heap.size + 1, 1, none⟩ = some (.slice efb9 es.length dfb9) := by subst hW8; go_simp
      replace f_b21 : w7.frozen? ⟨w.heap.size + 1, 1, none⟩ = false := by subst hW8; first | (simp only [World.frozen?_setCell]; with_reducible assumption) | go_simp
      replace b150 := Kw7.cell (by omega) b150
      replace f_b150 := Kw7.frzO (by omega) z_b15 f_b150
      replace b151 := Kw7.cell (by omega) b151
      replace f_b151 := Kw7.frzO (by omega) z_b15 f_b151
      replace bf8 := bf8.chg Kw7 (by omega)
      replace O19 := O19.chgN Kw7 (by omega)
      clear Kw7
      have z_b1 : w.heap.size < w7.heap.size := qB b10
      have z_b2 : w.heap.size + 1 < w7.heap.size := qB b20
      have z_b15 : w3.heap.size < w7.heap.size := qB b150
      have s_w7 : w.heap.size ≤ w7.heap.size := Xw7.size
      clear hW8
      refine bodyPost_ret (v := .tuple #[.agg #[.slice (some ⟨w4.heap.size, 0, none⟩) N N, .slice efb9 es.length dfb9], .bool true]) (by simp only [results, Try.results15]; go_simp) rfl ?_
      have eqA : resA cells es (N : Int) = (fitL cells N, es, true) := by unfold resA; rw [hbb.out, hin.out, decide_eq_true (show (selL opP es es.length).length = 0 by omega), Int.toNat_natCast]; rfl
      rw [show cells.take k ++ List.replicate (N - k) 0 = fitL cells N by exact fit_end (by omega)] at O19
      exact PBX.yes eqA ((bf8.buf.cellsQ (lo2 := w.heap.size) (by omega) q_bf8.out ((O19.lower (base' := w.heap.size) (by omega)).z) (CapZ.same (by rw [fitL_len])) (by rw [fitL_len]; omega) (fun _ g7 hg7 => by have h9 : w4.heap.size = g7 := Option.some.inj hg7; omega)).ext qXt) (Xw7.trans qXt)

set_option maxHeartbeats 3200000 in
theorem implResizeBuffer_c (cells : List Int) (es : List Exp) (cv ev : Value) (n : Int) (w : World) (l1 l2 : Nat) (h1 : Ints w l1 cv cells) (h2 : Exps w l2 ev es) :
  Calls Try.prog 14 #[.agg #[cv, ev], .int .i64 n] w (PBX w (resA cells es n)) := by
 obtain ⟨p0, c0, rfl⟩ := h1.form
 obtain ⟨p1, c1, rfl⟩ := h2.form
 have he1 := h2.len
 have hc1 := h1.len
 go_enter Try.func14, Try.ntmps14
 go_wp2_with fail
 refine (isBuffer_c cells es (.slice p0 cells.length c0) (.slice p1 es.length c1) _ _ _ (h1.ext qXt) (h2.ext qXt)).mono ?_
 rintro e w1 ⟨rfl, xw1⟩
 have Lw1 : Ext w w1 := Ext.trans qXt xw1
 have Xw1 : Ext w w1 := Lw1
 have b10 : w1.cell? ⟨w.heap.size, 0, none⟩ = some (.slice p0 cells.length c0) := xw1.cell qCl
 have b11 : w1.cell? ⟨w.heap.size, 1, none⟩ = some (.slice p1 es.length c1) := xw1.cell qCl
 have b20 : w1.cell? ⟨w.heap.size + 1, 0, none⟩ = some (.slice none 0 0) := xw1.cell qCl
 have b21 : w1.cell? ⟨w.heap.size + 1, 1, none⟩ = some (.slice none 0 0) := xw1.cell qCl
 have f_b20 : w1.frozen? ⟨w.heap.size + 1, 0, none⟩ = false := xw1.frz (by simp <;> omega) qFz
 have f_b21 : w1.frozen? ⟨w.heap.size + 1, 1, none⟩ = false := xw1.frz (by simp <;> omega) qFz
 have z_b1 : w.heap.size < w1.heap.size := qB b10
 have z_b2 : w.heap.size + 1 < w1.heap.size := qB b20
 have s_w1 : w.heap.size ≤ w1.heap.size := Xw1.size
 clear xw1
 cases hB3 : bufB cells es
 ·
  replace hB3 := Lib.hid hB3
  go_wp2_with fail
  generalize hW9 : ((w1.setCell ⟨w.heap.size + 1, 0, none⟩ (.slice none 0 0)).setCell ⟨w.heap.size + 1, 1, none⟩ (.slice none 0 0)) = w2 at *
  have Kw2 : Chg (w.heap.size + 1) (w.heap.size + 1 + 1) w1 w2 := by subst hW9; exact qCh
  have Xw2 : Ext w w2 := by subst hW9; exact qXt
  replace b10 := Kw2.cell (by omega) b10
  replace b11 := Kw2.cell (by omega) b11
  replace b20 : w2.cell? ⟨w.heap.size + 1, 0, none⟩ = some (.slice none 0 0) := by subst hW9; go_simp
  replace f_b20 : w2.frozen? ⟨w.heap.size + 1, 0, none⟩ = false := by subst hW9; first | (simp only [World.frozen?_setCell]; with_reducible assumption) | go_simp
  replace b21 : w2.cell? ⟨w.heap.size + 1, 1, none⟩ = some (.slice none 0 0) := by subst hW9; go_simp
  replace f_b21 : w2.frozen? ⟨w.heap.size + 1, 1, none⟩ = false := by subst hW9; first | (simp only [World.frozen?_setCell]; with_reducible assumption) | go_simp
  clear Kw2
  have z_b1 : w.heap.size < w2.heap.size := qB b10
  have z_b2 : w.heap.size + 1 < w2.heap.size := qB b20
  have s_w2 : w.heap.size ≤ w2.heap.size := Xw2.size
  clear hW9
  refine bodyPost_ret (v := .tuple #[.agg #[.slice none 0 0, .slice none 0 0], .bool false]) (by simp only [results, Try.results14]; go_simp) rfl ?_
  exact PBX.no (by unfold resA; rw [hB3.out]; rfl) (Xw2.trans qXt)
 ·
  replace hB3 := Lib.hid hB3
  have hbb : Hid (bufB cells es = true) := Lib.hid hB3.out
  have hoa : Hid (openA cells es = selL opP es es.length) := Lib.hid (by unfold openA; rw [hbb.out]; rfl)
  have hc60 := (bufB_in hbb.out).2.1
  go_wp2_with fail
  refine (areCells_c n _).mono ?_
  rintro e w' ⟨rfl, rfl⟩
  cases hB4 : inB 0 60 n
  ·
   replace hB4 := Lib.hid hB4
   go_wp2_with fail
   generalize hW10 : ((w1.setCell ⟨w.heap.size + 1, 0, none⟩ (.slice none 0 0)).setCell ⟨w.heap.size + 1, 1, none⟩ (.slice none 0 0)) = w2 at *
   have Kw2 : Chg (w.heap.size + 1) (w.heap.size + 1 + 1) w1 w2 := by subst hW10; exact qCh
   have Xw2 : Ext w w2 := by subst hW10; exact qXt
   replace b10 := Kw2.cell (by omega) b10
   replace b11 := Kw2.cell (by omega) b11
   replace b20 : w2.cell? ⟨w.heap.size + 1, 0, none⟩ = some (.slice none 0 0) := by subst hW10; go_simp
   replace f_b20 : w2.frozen? ⟨w.heap.size + 1, 0, none⟩ = false := by subst hW10; first | (simp only [World.frozen?_setCell]; with_reducible assumption) | go_simp
   replace b21 : w2.cell? ⟨w.heap.size + 1, 1, none⟩ = some (.slice none 0 0) := by subst hW10; go_simp
   replace f_b21 : w2.frozen? ⟨w.heap.size + 1, 1, none⟩ = false := by subst hW10; first | (simp only [World.frozen?_setCell]; with_reducible assumption) | go_simp
   clear Kw2
   have z_b1 : w.heap.size < w2.heap.size := qB b10
   have z_b2 : w.heap.size + 1 < w2.heap.size := qB b20
   have s_w2 : w.heap.size ≤ w2.heap.size := Xw2.size
   clear hW10
   refine bodyPost_ret (v := .tuple #[.agg #[.slice none 0 0, .slice none 0 0], .bool false]) (by simp only [results, Try.results14]; go_simp) rfl ?_
   exact PBX.no (by unfold resA; rw [hbb.out, hB4.out]; rfl) (Xw2.trans qXt)
  ·
   replace hB4 := Lib.hid hB4
   have hin : Hid (inB 0 60 n = true) := Lib.hid hB4.out
   obtain ⟨hn0, hn60⟩ : 0 ≤ n ∧ n ≤ 60 := by have h7 := hB4.out; unfold inB at h7; simp only [Bool.and_eq_true, decide_eq_true_eq] at h7; omega
   obtain ⟨N, rfl⟩ : ∃ N : Nat, n = N := ⟨n.toNat, by omega⟩
   go_wp2_with fail
   refine (pi_eq hoa.out (implOpenOf_c cells es (.slice p0 cells.length c0) (.slice p1 es.length c1) _ _ _ (h1.ext (Xw1.trans qXt)) (h2.ext (Xw1.trans qXt)))).mono ?_
   rintro e w2 ⟨fv5, rfl, i6, -, xw2⟩
   have Lw2 : Ext w1 w2 := Ext.trans qXt xw2
   have Xw2 : Ext w w2 := Xw1.trans Lw2
   replace b10 := Lw2.cell b10
   replace b11 := Lw2.cell b11
   replace b20 := Lw2.cell b20
   replace b21 := Lw2.cell b21
   replace f_b20 := Lw2.frz z_b2 f_b20
   replace f_b21 := Lw2.frz z_b2 f_b21
   have z_b1 : w.heap.size < w2.heap.size := qB b10
   have z_b2 : w.heap.size + 1 < w2.heap.size := qB b20
   have s_w2 : w.heap.size ≤ w2.heap.size := Xw2.size
   clear xw2
   obtain ⟨afv5, cfv5, rfl⟩ := i6.form
   by_cases hc7 : (0 : Int) < ((selL opP es es.length).length : Int)
   ·
    go_wp2_with fail
    generalize hW11 : ((w2.setCell ⟨w.heap.size + 1, 0, none⟩ (.slice none 0 0)).setCell ⟨w.heap.size + 1, 1, none⟩ (.slice none 0 0)) = w3 at *
    have Kw3 : Chg (w.heap.size + 1) (w.heap.size + 1 + 1) w2 w3 := by subst hW11; exact qCh
    have Xw3 : Ext w w3 := by subst hW11; exact qXt
    replace b10 := Kw3.cell (by omega) b10
    replace b11 := Kw3.cell (by omega) b11
    replace b20 : w3.cell? ⟨w.heap.size + 1, 0, none⟩ = some (.slice none 0 0) := by subst hW11; go_simp
    replace f_b20 : w3.frozen? ⟨w.heap.size + 1, 0, none⟩ = false := by subst hW11; first | (simp only [World.frozen?_setCell]; with_reducible assumption) | go_simp
    replace b21 : w3.cell? ⟨w.heap.size + 1, 1, none⟩ = some (.slice none 0 0) := by subst hW11; go_simp
    replace f_b21 : w3.frozen? ⟨w.heap.size + 1, 1, none⟩ = false := by subst hW11; first | (simp only [World.frozen?_setCell]; with_reducible assumption) | go_simp
    replace i6 := i6.chg Kw3 (by omega)
    clear Kw3
    have z_b1 : w.heap.size < w3.heap.size := qB b10
    have z_b2 : w.heap.size + 1 < w3.heap.size := qB b20
    have s_w3 : w.heap.size ≤ w3.heap.size := Xw3.size
    clear hW11
    refine bodyPost_ret (v := .tuple #[.agg #[.slice none 0 0, .slice none 0 0], .bool false]) (by simp only [results, Try.results14]; go_simp) rfl ?_
    exact PBX.no (by unfold resA; rw [hbb.out, hin.out, decide_eq_false (show ¬ (selL opP es es.length).length = 0 by omega)]; rfl) (Xw3.trans qXt)
   ·
    go_wp2_with fail
    have Q11_b10 := Lib.hid b10
    have Q11_b11 := Lib.hid b11
    have Q11_zb1 := z_b1
    have Q11_b20 := Lib.hid b20
    have Q11_f_b20 := Lib.hid f_b20
    have Q11_b21 := Lib.hid b21
    have Q11_f_b21 := Lib.hid f_b21
    have Q11_zb2 := z_b2
    have Q11_i6 := Lib.hid i6
    have BL12 : Ext w2 w2 := Ext.refl _
    refine (implCopyBuffer_c cells es (.slice p0 cells.length c0) (.slice p1 es.length c1) _ _ _ (h1.ext (Xw2.trans qXt)) (h2.ext (Xw2.trans qXt))).mono ?_
    rintro e w3 ⟨cvfb9, evfb9, R10, rfl, bf8, xw3⟩
    have Lw3 : Ext w2 w3 := Ext.trans qXt xw3
    have Xw3 : Ext w w3 := Xw2.trans Lw3
    replace b10 := Lw3.cell b10
    replace b11 := Lw3.cell b11
    replace b20 := Lw3.cell b20
    replace b21 := Lw3.cell b21
    replace f_b20 := Lw3.frz z_b2 f_b20
    replace f_b21 := Lw3.frz z_b2 f_b21
    have z_b1 : w.heap.size < w3.heap.size := qB b10
    have z_b2 : w.heap.size + 1 < w3.heap.size := qB b20
    replace i6 := i6.ext Lw3
    have s_w3 : w.heap.size ≤ w3.heap.size := Xw3.size
    have BL12_w3 : Ext w2 w3 := BL12.trans Lw3
    clear xw3
    replace bf8 := bf8.lower (lo' := w2.heap.size) qSo
    obtain ⟨afb9, cfb9, rfl⟩ := bf8.ints.form
    obtain ⟨efb9, dfb9, rfl⟩ := bf8.exps.form
    have q_bf8 := Lib.hid bf8.at
    have Q13_b10 := Lib.hid b10
    have Q13_b11 := Lib.hid b11
    have Q13_zb1 := z_b1
    have Q13_b20 := Lib.hid b20
    have Q13_f_b20 := Lib.hid f_b20
    have Q13_b21 := Lib.hid b21
    have Q13_f_b21 := Lib.hid f_b21
    have Q13_zb2 := z_b2
    have Q13_i6 := Lib.hid i6
    have Q13_bf8 := Lib.hid bf8
    have BL14 : Ext w3 w3 := Ext.refl _
    go_upto_region 4 with fail
    have zn_BL12_w4 := (BL12_w3).size
    have zn_BL14_w4 := (BL14).size
    generalize hW12 : w3.alloc (.cells #[.slice afb9 cells.length cfb9, .slice efb9 es.length dfb9] 26) = w4 at *
    have Lw4 : Ext w3 w4 := by subst hW12; exact qXt
    have Xw4 : Ext w w4 := Xw3.trans Lw4
    replace b10 := Lw4.cell b10
    replace b11 := Lw4.cell b11
    replace b20 := Lw4.cell b20
    replace b21 := Lw4.cell b21
    replace f_b20 := Lw4.frz z_b2 f_b20
    replace f_b21 := Lw4.frz z_b2 f_b21
    have b150 : w4.cell? ⟨w3.heap.size, 0, none⟩ = some (.slice afb9 cells.length cfb9) := by subst hW12; exact qCl
    have b151 : w4.cell? ⟨w3.heap.size, 1, none⟩ = some (.slice efb9 es.length dfb9) := by subst hW12; exact qCl
    have f_b150 : w4.frozen? ⟨w3.heap.size, 0, none⟩ = false := by subst hW12; exact qFz
    have f_b151 : w4.frozen? ⟨w3.heap.size, 1, none⟩ = false := by subst hW12; exact qFz
    have z_b1 : w.heap.size < w4.heap.size := qB b10
    have z_b2 : w.heap.size + 1 < w4.heap.size := qB b20
    have z_b15 : w3.heap.size < w4.heap.size := qB b150
    replace i6 := i6.ext Lw4
    replace bf8 := bf8.ext Lw4
    have s_w4 : w.heap.size ≤ w4.heap.size := Xw4.size
    have BL12_w4 : Ext w2 w4 := BL12_w3.trans Lw4
    have BL14_w4 : Ext w3 w4 := BL14.trans Lw4
    clear hW12
    have zBL12_mw4 := (BL12_w4).size
    have zBL14_mw4 := (BL14_w4).size
    have Q16_b10 := Lib.hid b10
    have Q16_b11 := Lib.hid b11
    have Q16_zb1 := z_b1
    have Q16_b20 := Lib.hid b20
    have Q16_f_b20 := Lib.hid f_b20
    have Q16_b21 := Lib.hid b21
    have Q16_f_b21 := Lib.hid f_b21
    have Q16_zb2 := z_b2
    have Q16_b150 := Lib.hid b150
    have Q16_f_b150 := Lib.hid f_b150
    have Q16_b151 := Lib.hid b151
    have Q16_f_b151 := Lib.hid f_b151
    have Q16_zb15 := z_b15
    have Q16_i6 := Lib.hid i6
    have Q16_bf8 := Lib.hid bf8
    have BL17 : Ext w4 w4 := Ext.refl _
    obtain ⟨i0mk18, himk18, hz0mk18, hz1mk18, hz2mk18⟩ := info_parts infoInt
    go_wp2_with (at_make; refine wpList_make_full _ rfl _ _ 23 rfl w4.heap.size 3 i0mk18 (.int .i64 0) 1 Try.underlying23 himk18 hz0mk18 hz1mk18 .i64 .i64 _ _ N rfl rfl rfl rfl (by rw [hz2mk18]; omega) (by unfold maxLen; omega) (Nat.le_refl _) ?_)
    intro w5 hown7 hgr7
    have xw5 : Ext w4 w5 := (Ext.refl w4).grown hgr7 (by simp)
    rw [made_ints] at hown7
    clear hgr7
    have O19 : OwnI w5 w4.heap.size (.slice (some ⟨w4.heap.size, 0, none⟩) N N) (List.replicate N 0) := by unfold OwnI; simpa using hown7
    clear hown7 himk18 hz0mk18 hz1mk18 hz2mk18
    have Lw5 : Ext w4 w5 := Ext.trans qXt xw5
    have Xw5 : Ext w w5 := Xw4.trans Lw5
    replace b10 := Lw5.cell b10
    replace b11 := Lw5.cell b11
    replace b20 := Lw5.cell b20
    replace b21 := Lw5.cell b21
    replace f_b20 := Lw5.frz z_b2 f_b20
    replace f_b21 := Lw5.frz z_b2 f_b21
    replace b150 := Lw5.cell b150
    replace b151 := Lw5.cell b151
    replace f_b150 := Lw5.frz z_b15 f_b150
    replace f_b151 := Lw5.frz z_b15 f_b151
    have z_b1 : w.heap.size < w5.heap.size := qB b10
    have z_b2 : w.heap.size + 1 < w5.heap.size := qB b20
    have z_b15 : w3.heap.size < w5.heap.size := qB b150
    replace i6 := i6.ext Lw5
    replace bf8 := bf8.ext Lw5
    have s_w5 : w.heap.size ≤ w5.heap.size := Xw5.size
    have BL12_w5 : Ext w2 w5 := BL12_w4.trans Lw5
    have BL14_w5 : Ext w3 w5 := BL14_w4.trans Lw5
    have BL17_w5 : Ext w4 w5 := BL17.trans Lw5
    clear xw5
    skip
    go_upto_region 5 with fail
    generalize hW13 : (w5.setCell ⟨w3.heap.size, 0, none⟩ (.slice (some ⟨w4.heap.size, 0, none⟩) N N)) = w6 at *
    have Kw6 : Chg (w3.heap.size) (w3.heap.size + 1) w5 w6 := by subst hW13; exact qCh
    have Xw6 : Ext w w6 := by subst hW13; exact qXt
    have BL12_w6 : Ext w2 w6 := by subst hW13; exact qXt
    have BL14_w6 : Ext w3 w6 := by subst hW13; exact qXt
    replace b10 := BL14_w6.cell Q13_b10.out
    replace b11 := BL14_w6.cell Q13_b11.out
    replace b20 := BL14_w6.cell Q13_b20.out
    replace f_b20 := BL14_w6.frz Q13_zb2 Q13_f_b20.out
    replace b21 := BL14_w6.cell Q13_b21.out
    replace f_b21 := BL14_w6.frz Q13_zb2 Q13_f_b21.out
    replace b150 : w6.cell? ⟨w3.heap.size, 0, none⟩ = some (.slice (some ⟨w4.heap.size, 0, none⟩) N N) := by subst hW13; go_simp
    replace f_b150 : w6.frozen? ⟨w3.heap.size, 0, none⟩ = false := by subst hW13; first | (simp only [World.frozen?_setCell]; with_reducible assumption) | go_simp
    replace b151 : w6.cell? ⟨w3.heap.size, 1, none⟩ = some (.slice efb9 es.length dfb9) := by subst hW13; go_simp
    replace f_b151 : w6.frozen? ⟨w3.heap.size, 1, none⟩ = false := by subst hW13; first | (simp only [World.frozen?_setCell]; with_reducible assumption) | go_simp
    replace i6 := (Q13_i6.out).ext BL14_w6
    replace bf8 := (Q13_bf8.out).ext BL14_w6
    replace O19 := O19.chgN Kw6 (by omega)
    clear Kw6
    have z_b1 : w.heap.size < w6.heap.size := qB b10
    have z_b2 : w.heap.size + 1 < w6.heap.size := qB b20
    have z_b15 : w3.heap.size < w6.heap.size := qB b150
    have s_w6 : w.heap.size ≤ w6.heap.size := Xw6.size
    clear hW13
    replace bf8 := BufT.of bf8 q_bf8.out
    clear i6
    go_wp2_with (with_reducible (show wpList _ _ _ (Oper.mk (some 31) _ _ _ _ _ :: _) _ _); refine wpList_copyI rfl (.tmp 28) (.tmp 30) rfl rfl rfl (O19.ext qXt) (h1.ext (Xw6.trans qXt)) ?_)
    intro w7 rc20 n_O19 Kw7
    clear O19
    have O19 := n_O19
    clear n_O19
    have Xw7 : Ext w w7 := Ext.chg Xw6 Kw7 (by omega)
    replace b10 := Kw7.cell (by omega) b10
    replace b11 := Kw7.cell (by omega) b11
    replace b20 := Kw7.cell (by omega) b20
    replace f_b20 := Kw7.frzO (by omega) (by omega) f_b20
    replace b21 := Kw7.cell (by omega) b21
    replace f_b21 := Kw7.frzO (by omega) (by omega) f_b21
    replace b150 := Kw7.cell (by omega) b150
    replace f_b150 := Kw7.frzO (by omega) (by omega) f_b150
    replace b151 := Kw7.cell (by omega) b151
    replace f_b151 := Kw7.frzO (by omega) (by omega) f_b151
    have z_b1 : w.heap.size < w7.heap.size := qB b10
    have z_b2 : w.heap.size + 1 < w7.heap.size := qB b20
    have z_b15 : w3.heap.size < w7.heap.size := qB b150
    replace bf8 := bf8.chg Kw7 (by omega)
    have s_w7 : w.heap.size ≤ w7.heap.size := Xw7.size
    clear Kw7
    go_wp2_with fail
    generalize hW14 : ((w7.setCell ⟨w.heap.size + 1, 0, none⟩ (.slice (some ⟨w4.heap.size, 0, none⟩) N N)).setCell ⟨w.heap.size + 1, 1, none⟩ (.slice efb9 es.length dfb9)) = w8 at *
    have Kw8 : Chg (w.heap.size + 1) (w.heap.size + 1 + 1) w7 w8 := by subst hW14; exact qCh
    have Xw8 : Ext w w8 := by subst hW14; exact qXt
    replace b10 := Kw8.cell (by omega) b10
    replace b11 := Kw8.cell (by omega) b11
    replace b20 : w8.cell? ⟨w.heap.size + 1, 0, none⟩ = some (.slice (some ⟨w4.heap.size, 0, none⟩) N N) := by subst hW14; go_simp
    replace f_b20 : w8.frozen? ⟨w.heap.size + 1, 0, none⟩ = false := by subst hW14; first | (simp only [World.frozen?_setCell]; with_reducible assumption) | go_simp
    replace b21 : w8.cell? ⟨w.heap.size + 1, 1, none⟩ = some (.slice efb9 es.length dfb9) := by subst hW14; go_simp
    replace f_b21 : w8.frozen? ⟨w.heap.size + 1, 1, none⟩ = false := by subst hW14; first | (simp only [World.frozen?_setCell]; with_reducible assumption) | go_simp
    replace b150 := Kw8.cell (by omega) b150
    replace f_b150 := Kw8.frzO (by omega) z_b15 f_b150
    replace b151 := Kw8.cell (by omega) b151
    replace f_b151 := Kw8.frzO (by omega) z_b15 f_b151
    replace bf8 := bf8.chg Kw8 (by omega)
    replace O19 := O19.chgN Kw8 (by omega)
    clear Kw8
    have z_b1 : w.heap.size < w8.heap.size := qB b10
    have z_b2 : w.heap.size + 1 < w8.heap.size := qB b20
    have z_b15 : w3.heap.size < w8.heap.size := qB b150
    have s_w8 : w.heap.size ≤ w8.heap.size := Xw8.size
    clear hW14
    refine bodyPost_ret (v := .tuple #[.agg #[.slice (some ⟨w4.heap.size, 0, none⟩) N N, .slice efb9 es.length dfb9], .bool true]) (by simp only [results, Try.results14]; go_simp) rfl ?_
    have eqA : resA cells es (N : Int) = (fitL cells N, es, true) := by unfold resA; rw [hbb.out, hin.out, decide_eq_true (show (selL opP es es.length).length = 0 by omega), Int.toNat_natCast]; rfl
    rw [show cpL (List.replicate N 0) cells = fitL cells N by unfold cpL fitL; rw [List.length_replicate, List.drop_replicate]] at O19
    exact PBX.yes eqA ((bf8.buf.cellsQ (lo2 := w.heap.size) (by omega) q_bf8.out ((O19.lower (base' := w.heap.size) (by omega)).z) (CapZ.same (by rw [fitL_len])) (by rw [fitL_len]; omega) (fun _ g7 hg7 => by have h9 : w4.heap.size = g7 := Option.some.inj hg7; omega)).ext qXt) (Xw8.trans qXt)


end Go.Proofs.Ytgklaobfikbiiaa

/- Walks: rows, sums. -/
namespace Go.Proofs.Ytgklaobfikbiiaa
open Go.RowKit
set_option linter.unusedVariables false
set_option maxRecDepth 100000

end Go.Proofs.Ytgklaobfikbiiaa

/- Walks: bounds of the reference. -/
namespace Go.Proofs.Ytgklaobfikbiiaa
open Go.RowKit
set_option linter.unusedVariables false
set_option maxRecDepth 100000


theorem foldl_take_succ (f : Int → Int → Int) (l : List Int) (a : Int) (k : Nat) (h : k < l.length) : (l.take (k+1)).foldl f a = f ((l.take k).foldl f a) (l.getD k 0) := by
  rw [List.take_succ_eq_append_getElem h, List.foldl_append]; simp [h]
theorem offs_bd {b : Int} {s t : List Int} (h : viewB b s t = true) : ∀ x ∈ offsL b s t, 0 ≤ x ∧ x ≤ 59 := (viewB_in h).2.2.2.2
theorem offs_pos {b : Int} {s t : List Int} (h : viewB b s t = true) (hc : ¬ countL s = 0) : 0 < (offsL b s t).length := by
  have := shapeB_in (viewB_in h).1
  rw [offs_count]; omega
theorem offs_len60 {b : Int} {s t : List Int} (h : viewB b s t = true) : (offsL b s t).length ≤ 60 := by
  have := shapeB_in (viewB_in h).1
  rw [offs_count]; omega

end Go.Proofs.Ytgklaobfikbiiaa

/- Walks: values that are stored, of the program and of the reference. -/
namespace Go.Proofs.Ytgklaobfikbiiaa
open Go.RowKit
set_option linter.unusedVariables false
set_option maxRecDepth 100000


def badV (vs : List Int) : Bool := vs.any (fun x => !inB 0 255 x)
def storeB (mem : List Int) (b : Int) (s t vs : List Int) : Bool := holdB mem b s t && (decide ((vs.length : Int) = countL s) && !badV vs)
def putA (mem : List Int) (b : Int) (s t vs : List Int) : List Int := if storeB mem b s t vs then putL mem (offsL b s t) vs else []
def addA (mem : List Int) (b : Int) (s t vs : List Int) : List Int := if storeB mem b s t vs then addUp mem (offsL b s t) vs (offsL b s t).length else []
theorem badV_all (vs : List Int) : vs.all (inB 0 255) = !badV vs := by unfold badV; simp [List.all_eq_not_any_not]
theorem store_in {mem : List Int} {b : Int} {s t vs : List Int} (h : storeB mem b s t vs = true) : holdB mem b s t = true ∧ vs.length = (offsL b s t).length ∧ (∀ x ∈ vs, 0 ≤ x ∧ x ≤ 255) ∧ viewB b s t = true ∧ (∀ x ∈ offsL b s t, 0 ≤ x ∧ x < mem.length) ∧ (mem.length ≤ 60 ∧ ∀ x ∈ mem, 0 ≤ x ∧ x ≤ 255) ∧ (offsL b s t).length ≤ 60 := by
  unfold storeB at h
  simp only [Bool.and_eq_true, decide_eq_true_eq, Bool.not_eq_true'] at h
  obtain ⟨h1, h2, h3⟩ := h
  obtain ⟨g1, g2, g3⟩ := hold_in h1
  have g4 := shapeB_in (viewB_in g2).1
  have g5 := badV_all vs
  rw [h3] at g5
  simp only [Bool.not_false, List.all_eq_true, inB, decide_eq_true_eq] at g5
  have g6 := g1
  unfold memB at g6
  simp only [Bool.and_eq_true, List.all_eq_true, decide_eq_true_eq, inB] at g6
  exact ⟨h1, by rw [offs_count]; omega, g5, g2, g3, g6, by rw [offs_count]; omega⟩
theorem PIntsB.nil {w w' : World} (h : Ext w w') : PIntsB w [] false (.returned (.tuple #[.slice none 0 0, .bool false])) w' :=
  ⟨_, rfl, Ints.nil _ _ _ _ (by simp) (fun _ => rfl), .inl ⟨rfl, none, 0, rfl, by simp, fun _ => rfl⟩, h⟩
theorem store_nil {mem : List Int} {b : Int} {s t vs : List Int} (h : storeB mem b s t vs = true) (hm : mem = []) : (offsL b s t).length = 0 := by
  obtain ⟨-, -, -, -, h5, -, -⟩ := store_in h
  cases hl : offsL b s t with
  | nil => rfl
  | cons x r => have := h5 x (by rw [hl]; simp); subst hm; simp at this; omega
theorem addUp_bd (mem ix vs : List Int) (hm : ∀ x ∈ mem, 0 ≤ x ∧ x ≤ 255) (k : Nat) : ∀ x ∈ addUp mem ix vs k, 0 ≤ x ∧ x ≤ 255 := by
  induction k with
  | zero => exact hm
  | succ k ih =>
    rw [addUp_succ]
    intro x hx
    rcases List.mem_or_eq_of_mem_set hx with h | h
    · exact ih x h
    · have := Int.emod_nonneg ((addUp mem ix vs k).getD (ix.getD k 0).toNat 0 + vs.getD k 0) (show (256 : Int) ≠ 0 by omega)
      have := Int.emod_lt_of_pos ((addUp mem ix vs k).getD (ix.getD k 0).toNat 0 + vs.getD k 0) (show (0 : Int) < 256 by omega)
      omega
theorem addUp_step {mem ix vs : List Int} {k j : Nat} {x y : Int} (hj : ix.getD k 0 = (j : Int)) (hx : (addUp mem ix vs k).getD j 0 = x) (hy : vs.getD k 0 = y) (h0 : 0 ≤ x) (h1 : 0 ≤ y) : addUp mem ix vs (k+1) = (addUp mem ix vs k).set j ((x + y).tmod 256) := by
  rw [addUp_succ, hj, hy, Int.toNat_natCast, hx, Int.tmod_eq_emod_of_nonneg (by omega)]

end Go.Proofs.Ytgklaobfikbiiaa

/- Walks: views that are filled and copied, of both. -/
namespace Go.Proofs.Ytgklaobfikbiiaa
open Go.RowKit
set_option linter.unusedVariables false
set_option maxRecDepth 100000


/-- a list after v was stored at the first k places -/
def fillUp (mem ix : List Int) (v : Int) (k : Nat) : List Int := (List.range k).foldl (fun m i => m.set (ix.getD i 0).toNat v) mem
theorem fillUp_succ (mem ix : List Int) (v : Int) (k : Nat) : fillUp mem ix v (k+1) = (fillUp mem ix v k).set (ix.getD k 0).toNat v := by
 unfold fillUp; rw [List.range_succ, List.foldl_append]; rfl
theorem fillUp_len (mem ix : List Int) (v : Int) (k : Nat) : (fillUp mem ix v k).length = mem.length := by
 induction k with
 | zero => rfl
 | succ k ih => rw [fillUp_succ, List.length_set, ih]
theorem fillUp_step {mem ix : List Int} {v : Int} {k j : Nat} (hj : ix.getD k 0 = (j : Int)) : fillUp mem ix v (k+1) = (fillUp mem ix v k).set j v := by
 rw [fillUp_succ, hj]; rfl
def fillB (mem : List Int) (b : Int) (s t : List Int) (v : Int) : Bool := holdB mem b s t && inB 0 255 v
def fillA (mem : List Int) (b : Int) (s t : List Int) (v : Int) : List Int := if fillB mem b s t v then fillUp mem (offsL b s t) v (offsL b s t).length else []
theorem fill_in {mem : List Int} {b : Int} {s t : List Int} (h : holdB mem b s t = true) : viewB b s t = true ∧ (∀ x ∈ offsL b s t, 0 ≤ x ∧ x < mem.length) ∧ mem.length ≤ 60 ∧ (offsL b s t).length ≤ 60 := by
 obtain ⟨g1, g2, g3⟩ := hold_in h
 have g4 := shapeB_in (viewB_in g2).1
 unfold memB at g1
 simp only [Bool.and_eq_true, decide_eq_true_eq] at g1
 exact ⟨g2, g3, g1.1, by rw [offs_count]; omega⟩
theorem fillA_len {mem : List Int} {b : Int} {s t : List Int} {v : Int} (h : fillB mem b s t v = true) : (fillA mem b s t v).length = mem.length := by unfold fillA; rw [if_pos h, fillUp_len]
def copyA (mem : List Int) (b1 : Int) (s1 t1 : List Int) (b2 : Int) (s2 t2 : List Int) : List Int := if pairB mem b1 s1 t1 b2 s2 t2 then putL mem (offsL b1 s1 t1) (loadL mem b2 s2 t2) else []
theorem pair_in {mem : List Int} {b1 : Int} {s1 t1 : List Int} {b2 : Int} {s2 t2 : List Int} (h : pairB mem b1 s1 t1 b2 s2 t2 = true) : holdB mem b1 s1 t1 = true ∧ holdB mem b2 s2 t2 = true ∧ (loadL mem b2 s2 t2).length = (offsL b1 s1 t1).length := by
 unfold pairB at h
 simp only [Bool.and_eq_true] at h
 have he := sameB_eq h.2.2
 exact ⟨h.1, h.2.1, by unfold loadL; rw [takL_len, offs_count, offs_count, he]⟩
theorem copyA_len {mem : List Int} {b1 : Int} {s1 t1 : List Int} {b2 : Int} {s2 t2 : List Int} (h : pairB mem b1 s1 t1 b2 s2 t2 = true) : (copyA mem b1 s1 t1 b2 s2 t2).length = mem.length := by unfold copyA putL; rw [if_pos h, putUp_len]

set_option maxHeartbeats 3200000 in
theorem specFillView_c (mem : List Int) (a0 : Value) (b1 : Int) (u1 v1 : Value) (s1 t1 : List Int) (x : Int) (w : World) (l0 : Nat) (h0 : Ints w l0 a0 mem) (l1 m1 : Nat) (h1 : Ints w l1 u1 s1) (k1 : Ints w m1 v1 t1) :
  Calls Try.prog 92 #[a0, .agg #[.int .i64 b1, u1, v1], .int .i64 x] w (PIntsBC w (fillA mem b1 s1 t1 x) (fillB mem b1 s1 t1 x)) := by
 obtain ⟨p0, c0, rfl⟩ := h1.form
 obtain ⟨p1, c1, rfl⟩ := k1.form
 obtain ⟨p2, c2, rfl⟩ := h0.form
 go_enter Try.func92, Try.ntmps92
 go_wp2_with fail
 refine (sees_c mem (.slice p2 mem.length c2) b1 (.slice p0 s1.length c0) (.slice p1 t1.length c1) s1 t1 _ _ _ _ (h0.ext qXt) (h1.ext qXt) (k1.ext qXt)).mono ?_
 rintro e w1 ⟨rfl, xw1⟩
 have Lw1 : Ext w w1 := Ext.trans qXt xw1
 have Xw1 : Ext w w1 := Lw1
 have b10 : w1.cell? ⟨w.heap.size, 0, none⟩ = some (.int .i64 b1) := xw1.cell qCl
 have b11 : w1.cell? ⟨w.heap.size, 1, none⟩ = some (.slice p0 s1.length c0) := xw1.cell qCl
 have b12 : w1.cell? ⟨w.heap.size, 2, none⟩ = some (.slice p1 t1.length c1) := xw1.cell qCl
 have z_b1 : w.heap.size < w1.heap.size := qB b10
 have s_w1 : w.heap.size ≤ w1.heap.size := Xw1.size
 clear xw1
 cases hB2 : holdB mem b1 s1 t1
 ·
  replace hB2 := Lib.hid hB2
  go_wp2_with fail
  go_ret2
  rw [show fillA mem b1 s1 t1 x = [] by unfold fillA; rw [(show fillB mem b1 s1 t1 x = false from by unfold fillB; rw [hB2.out] <;> rfl)]; rfl, (show fillB mem b1 s1 t1 x = false from by unfold fillB; rw [hB2.out] <;> rfl)]
  exact PIntsBC.nil (Xw1.trans qXt)
 ·
  replace hB2 := Lib.hid hB2
  obtain ⟨hvw, hix, hm60, ho60⟩ := fill_in hB2.out
  replace hix := Lib.hid hix
  replace hvw := Lib.hid hvw
  go_wp2_with fail
  refine (inRange_c x 0 255 _).mono ?_
  rintro e w' ⟨rfl, rfl⟩
  cases hB3 : inB 0 255 x
  ·
   replace hB3 := Lib.hid hB3
   go_wp2_with fail
   go_ret2
   rw [show fillA mem b1 s1 t1 x = [] by unfold fillA; rw [(show fillB mem b1 s1 t1 x = false from by unfold fillB; rw [hB2.out, hB3.out] <;> rfl)]; rfl, (show fillB mem b1 s1 t1 x = false from by unfold fillB; rw [hB2.out, hB3.out] <;> rfl)]
   exact PIntsBC.nil (Xw1.trans qXt)
  ·
   replace hB3 := Lib.hid hB3
   go_wp2_with fail
   have Q7_b10 := Lib.hid b10
   have Q7_b11 := Lib.hid b11
   have Q7_b12 := Lib.hid b12
   have Q7_zb1 := z_b1
   have BL8 : Ext w1 w1 := Ext.refl _
   refine (copyIntsC_c (.slice p2 mem.length c2) mem _ _ (h0.ext (Xw1.trans qXt))).mono ?_
   rintro e w2 ⟨gr5, rr6, rfl, O4, Ggr5, Ggr5', czgr5, xw2⟩
   have Lw2 : Ext w1 w2 := Ext.trans qXt xw2
   have Xw2 : Ext w w2 := Xw1.trans Lw2
   replace b10 := Lw2.cell b10
   replace b11 := Lw2.cell b11
   replace b12 := Lw2.cell b12
   have z_b1 : w.heap.size < w2.heap.size := qB b10
   have s_w2 : w.heap.size ≤ w2.heap.size := Xw2.size
   have BL8_w2 : Ext w1 w2 := BL8.trans Lw2
   clear xw2
   go_wp2_with fail
   refine (offsets_c b1 (.slice p0 s1.length c0) (.slice p1 t1.length c1) s1 t1 _ _ _ (h1.ext (Xw2.trans qXt)) (k1.ext (Xw2.trans qXt)) (vw hvw.out).1 (vw hvw.out).2.1 (vw hvw.out).2.2.1).mono ?_
   rintro e w3 ⟨fv9, rfl, i10, -, xw3⟩
   have Lw3 : Ext w2 w3 := Ext.trans qXt xw3
   have Xw3 : Ext w w3 := Xw2.trans Lw3
   replace b10 := Lw3.cell b10
   replace b11 := Lw3.cell b11
   replace b12 := Lw3.cell b12
   have z_b1 : w.heap.size < w3.heap.size := qB b10
   replace O4 := O4.ext Lw3
   have s_w3 : w.heap.size ≤ w3.heap.size := Xw3.size
   have BL8_w3 : Ext w1 w3 := BL8_w2.trans Lw3
   clear xw3
   obtain ⟨afv9, cfv9, rfl⟩ := i10.form
   go_wp2_with fail
   skip
   go_loopw [10] (fun i wr => ∃ (k : Nat), k ≤ (offsL b1 s1 t1).length ∧ i = .int .i64 k ∧ OwnI wr (w1.heap.size) (.slice (some ⟨gr5, 0, none⟩) mem.length rr6) (fillUp mem (offsL b1 s1 t1) x k) ∧ Chg gr5 (gr5 + 1) w3 wr ∧ Ext w1 wr) (fun i _ => (offsL b1 s1 t1).length - (intOf i).toNat)
   case atStart => exact ⟨0, Nat.zero_le _, rfl, (show OwnI _ _ _ (fillUp mem (offsL b1 s1 t1) x 0) from (O4.ext qXt)), Chg.refl _ _ _, BL8_w3⟩
   case round =>
    obtain ⟨k, hk, rfl, O4n, Kr11, Er12⟩ := hrel
    have Xwr : Ext w wr := Xw1.trans Er12
    have s_wr : w.heap.size ≤ wr.heap.size := Xwr.size
    have t_wr : w3.heap.size ≤ wr.heap.size := Kr11.size
    replace b10 := Er12.cell Q7_b10.out
    replace b11 := Er12.cell Q7_b11.out
    replace b12 := Er12.cell Q7_b12.out
    have z_b1 : w.heap.size < wr.heap.size := qB b10
    clear O4
    have O4 := O4n
    clear O4n
    replace i10 := i10.chg Kr11 (by omega)
    by_cases hlt : k < (offsL b1 s1 t1).length
    ·
     have hkI : (k : Int) < (offsL b1 s1 t1).length := by omega
     obtain ⟨hi0, hi1⟩ := hix.out _ (getD_mem hlt)
     obtain ⟨j, hj⟩ : ∃ j : Nat, (offsL b1 s1 t1).getD k 0 = j := ⟨((offsL b1 s1 t1).getD k 0).toNat, by omega⟩
     rw [hj] at hi0 hi1
     replace hj := Lib.hid hj
     have hs := Lib.hid (fillUp_step (mem := mem) (v := x) hj.out)
     have hN_e15 : k < (offsL b1 s1 t1).length := (by omega)
     have hI_e15 : (k : Int) < ((offsL b1 s1 t1).length : Int) := by omega
     obtain ⟨bl13, ol14, rfl, e150⟩ := i10.at k (by omega)
     obtain ⟨v16, hv16⟩ : ∃ v, (offsL b1 s1 t1).getD k 0 = v := ⟨_, rfl⟩
     rw [hv16] at e150
     replace hv16 := Lib.hid hv16
     have y_e15 : bl13 < wr.heap.size := qB e150
     have z_e15 := y_e15
     obtain rfl : v16 = (j : Int) := by rw [← hv16.out]; exact hj.out
     have A17 := O4.cell j (by rw [fillUp_len]; omega)
     obtain ⟨A17a, A17b⟩ := A17
     go_wp2_with fail
     clear e150 z_e15
     generalize hW2 : (wr.setCell ⟨gr5, j, none⟩ (.int .i64 x)) = w4 at *
     have Kw4 : Chg (gr5) (gr5 + 1) wr w4 := by subst hW2; exact qCh
     have Xw4 : Ext w w4 := by subst hW2; exact qXt
     have BL8_w4 : Ext w1 w4 := by subst hW2; exact qXt
     have Kr11_w4 : Chg gr5 (gr5 + 1) w3 w4 := Chg.trans Kr11 Kw4
     replace b10 := BL8_w4.cell Q7_b10.out
     replace b11 := BL8_w4.cell Q7_b11.out
     replace b12 := BL8_w4.cell Q7_b12.out
     have n_O4 := O4.set j (x) (by first | omega | (simp; omega) | (rw [putUp_len]; simp; omega) | (rw [addUp_len]; omega) | (rw [fillUp_len]; omega))
     rw [hW2] at n_O4
     replace O4 := n_O4
     clear n_O4
     replace i10 := i10.chg Kw4 (by omega)
     clear Kw4
     have z_b1 : w.heap.size < w4.heap.size := qB b10
     have s_w4 : w.heap.size ≤ w4.heap.size := Xw4.size
     clear hW2
     clear A17a A17b
     go_roundw
     case rel => exact ⟨k + 1, by omega, by go_num, (by rw [hs.out]; exact O4.ext qXt), Kr11_w4.ext qXt, BL8_w4.trans qXt⟩
     case measure => simp [intOf]; omega
    ·
     have hkI : ¬ (k : Int) < (offsL b1 s1 t1).length := by omega
     go_wp2_with fail
     go_ret2
     rw [show fillA mem b1 s1 t1 x = fillUp mem (offsL b1 s1 t1) x k by unfold fillA; rw [(show fillB mem b1 s1 t1 x = true from by unfold fillB; rw [hB2.out, hB3.out] <;> rfl), if_pos rfl, show k = (offsL b1 s1 t1).length by omega], (show fillB mem b1 s1 t1 x = true from by unfold fillB; rw [hB2.out, hB3.out] <;> rfl)]
     exact ⟨_, rfl, (O4.ints (by rw [fillUp_len]; omega)).lower (by omega), (O4.lower (by omega)).z, CapZ.row czgr5 (by rw [fillUp_len]) rfl, Xwr⟩

set_option maxHeartbeats 3200000 in
theorem putZ0 (mem vs : List Int) (a0 a2 : Value) (b1 : Int) (u1 v1 : Value) (s1 t1 : List Int) (w : World) (l0 l1 m1 l2 : Nat) (h0 : Ints w l0 a0 mem) (h1 : Ints w l1 u1 s1) (k1 : Ints w m1 v1 t1) (h2 : Ints w l2 a2 vs) (hml : mem.length ≤ 60) (ha : viewB b1 s1 t1 = true) (hix : ∀ x ∈ offsL b1 s1 t1, 0 ≤ x ∧ x < mem.length) (hvl : vs.length = (offsL b1 s1 t1).length) (hme : mem = []) :
  Calls Try.prog 100 #[a0, .agg #[.int .i64 b1, u1, v1], a2] w (PIntsZ w (putL mem (offsL b1 s1 t1) vs)) := by
 obtain ⟨p0, c0, rfl⟩ := h1.form
 obtain ⟨p1, c1, rfl⟩ := k1.form
 obtain ⟨p2, c2, rfl⟩ := h0.form
 obtain ⟨p3, c3, rfl⟩ := h2.form
 have hz : Hid ((offsL b1 s1 t1).length = 0) := Lib.hid (by
  cases hl : offsL b1 s1 t1 with
  | nil => rfl
  | cons x r => have := hix x (by rw [hl]; simp); subst hme; simp at this; omega)
 have hvw := Lib.hid ha
 clear ha hix hvl
 replace hme := Lib.hid hme
 go_enter Try.func100, Try.ntmps100
 go_upto_region 1 with fail
 generalize hW4 : w.alloc (.cells #[.int .i64 b1, .slice p0 s1.length c0, .slice p1 t1.length c1] 30) = w1 at *
 have Lw1 : Ext w w1 := by subst hW4; exact qXt
 have Xw1 : Ext w w1 := by subst hW4; exact Lw1
 have b10 : w1.cell? ⟨w.heap.size, 0, none⟩ = some (.int .i64 b1) := by subst hW4; exact qCl
 have b11 : w1.cell? ⟨w.heap.size, 1, none⟩ = some (.slice p0 s1.length c0) := by subst hW4; exact qCl
 have b12 : w1.cell? ⟨w.heap.size, 2, none⟩ = some (.slice p1 t1.length c1) := by subst hW4; exact qCl
 have z_b1 : w.heap.size < w1.heap.size := qB b10
 have s_w1 : w.heap.size ≤ w1.heap.size := Xw1.size
 clear hW4
 go_wp2_with fail
 have Q5_b10 := Lib.hid b10
 have Q5_b11 := Lib.hid b11
 have Q5_b12 := Lib.hid b12
 have Q5_zb1 := z_b1
 have BL6 : Ext w1 w1 := Ext.refl _
 refine (copyIntsC_c (.slice p2 mem.length c2) mem _ _ (h0.ext (Xw1.trans qXt))).mono ?_
 rintro e w2 ⟨gr3, rr4, rfl, O2, Ggr3, Ggr3', czgr3, xw2⟩
 have Lw2 : Ext w1 w2 := Ext.trans qXt xw2
 have Xw2 : Ext w w2 := Xw1.trans Lw2
 replace b10 := Lw2.cell b10
 replace b11 := Lw2.cell b11
 replace b12 := Lw2.cell b12
 have z_b1 : w.heap.size < w2.heap.size := qB b10
 have s_w2 : w.heap.size ≤ w2.heap.size := Xw2.size
 have BL6_w2 : Ext w1 w2 := BL6.trans Lw2
 clear xw2
 go_wp2_with fail
 refine (offsets_c b1 (.slice p0 s1.length c0) (.slice p1 t1.length c1) s1 t1 _ _ _ (h1.ext (Xw2.trans qXt)) (k1.ext (Xw2.trans qXt)) (vw hvw.out).1 (vw hvw.out).2.1 (vw hvw.out).2.2.1).mono ?_
 rintro e w3 ⟨fv7, rfl, i8, -, xw3⟩
 have Lw3 : Ext w2 w3 := Ext.trans qXt xw3
 have Xw3 : Ext w w3 := Xw2.trans Lw3
 replace b10 := Lw3.cell b10
 replace b11 := Lw3.cell b11
 replace b12 := Lw3.cell b12
 have z_b1 : w.heap.size < w3.heap.size := qB b10
 replace O2 := O2.ext Lw3
 have s_w3 : w.heap.size ≤ w3.heap.size := Xw3.size
 have BL6_w3 : Ext w1 w3 := BL6_w2.trans Lw3
 clear xw3
 obtain ⟨afv7, cfv7, rfl⟩ := i8.form
 go_wp2_with fail
 skip
 go_loopw [9] (fun i wr => i = .int .i64 0 ∧ Ext w3 wr) (fun _ _ => 0)
 case atStart => exact ⟨rfl, qXt⟩
 case round =>
  obtain ⟨rfl, Lwr⟩ := hrel
  have Xwr : Ext w wr := Xw3.trans Lwr
  have s_wr : w.heap.size ≤ wr.heap.size := Xwr.size
  have t_wr : w3.heap.size ≤ wr.heap.size := Lwr.size
  replace b10 := Lwr.cell b10
  replace b11 := Lwr.cell b11
  replace b12 := Lwr.cell b12
  have z_b1 : w.heap.size < wr.heap.size := qB b10
  replace O2 := O2.ext Lwr
  replace i8 := i8.ext Lwr
  have BL6_wr : Ext w1 wr := BL6_w3.trans Lwr
  have Bwr : Ext w3 wr := Lwr
  skip
  ·
   have hkI : ¬ (0 : Int) < (offsL b1 s1 t1).length := by have := hz.out; omega
   go_wp2_with fail
   go_ret
   rw [show putL mem (offsL b1 s1 t1) vs = mem by unfold putL; rw [hz.out]; rfl]
   exact ⟨_, rfl, (O2.ints (by omega)).lower (by omega), (O2.lower (by omega)).z, CapZ.row czgr3 rfl rfl, (Xwr.trans qXt)⟩

set_option maxHeartbeats 1600000 in
theorem putZ_c (mem vs : List Int) (a0 a2 : Value) (b1 : Int) (u1 v1 : Value) (s1 t1 : List Int) (w : World) (l0 l1 m1 l2 : Nat) (h0 : Ints w l0 a0 mem) (h1 : Ints w l1 u1 s1) (k1 : Ints w m1 v1 t1) (h2 : Ints w l2 a2 vs) (hml : mem.length ≤ 60) (ha : viewB b1 s1 t1 = true) (hix : ∀ x ∈ offsL b1 s1 t1, 0 ≤ x ∧ x < mem.length) (hvl : vs.length = (offsL b1 s1 t1).length) :
  Calls Try.prog 100 #[a0, .agg #[.int .i64 b1, u1, v1], a2] w (PIntsZ w (putL mem (offsL b1 s1 t1) vs)) := by
 by_cases hme : mem = []
 ·
  exact putZ0 mem vs a0 a2 b1 u1 v1 s1 t1 w l0 l1 m1 l2 h0 h1 k1 h2 hml ha hix hvl hme
 ·
  refine (put_c mem vs a0 a2 b1 u1 v1 s1 t1 w l0 l1 m1 l2 h0 h1 k1 h2 hml ha hix hvl).mono fun e w' h => ?_
  obtain ⟨v, h1, h2, h3, h4⟩ := h
  exact ⟨v, h1, h2, h3, Lib.hid (fun h => absurd (List.eq_nil_of_length_eq_zero (by rw [← putUp_len mem (offsL b1 s1 t1) vs (offsL b1 s1 t1).length]; exact congrArg List.length h)) hme), h4⟩

set_option maxHeartbeats 3200000 in
theorem specCopyView_c (mem : List Int) (a0 : Value) (b1 : Int) (u1 v1 : Value) (s1 t1 : List Int) (b2 : Int) (u2 v2 : Value) (s2 t2 : List Int) (w : World) (l0 : Nat) (h0 : Ints w l0 a0 mem) (l1 m1 : Nat) (h1 : Ints w l1 u1 s1) (k1 : Ints w m1 v1 t1) (l2 m2 : Nat) (h2 : Ints w l2 u2 s2) (k2 : Ints w m2 v2 t2) :
  Calls Try.prog 93 #[a0, .agg #[.int .i64 b1, u1, v1], .agg #[.int .i64 b2, u2, v2]] w (PIntsBC w (copyA mem b1 s1 t1 b2 s2 t2) (pairB mem b1 s1 t1 b2 s2 t2)) := by
 obtain ⟨p0, c0, rfl⟩ := h1.form
 obtain ⟨p1, c1, rfl⟩ := k1.form
 obtain ⟨p2, c2, rfl⟩ := h0.form
 obtain ⟨p4, c4, rfl⟩ := h2.form
 obtain ⟨p5, c5, rfl⟩ := k2.form
 go_enter Try.func93, Try.ntmps93
 go_wp2_with fail
 refine (pair_c mem (.slice p2 mem.length c2) b1 (.slice p0 s1.length c0) (.slice p1 t1.length c1) s1 t1 b2 (.slice p4 s2.length c4) (.slice p5 t2.length c5) s2 t2 _ _ _ _ _ _ (h0.ext qXt) (h1.ext qXt) (k1.ext qXt) (h2.ext qXt) (k2.ext qXt)).mono ?_
 rintro e w1 ⟨rfl, xw1⟩
 have Lw1 : Ext w w1 := Ext.trans qXt xw1
 have Xw1 : Ext w w1 := Lw1
 have b10 : w1.cell? ⟨w.heap.size, 0, none⟩ = some (.int .i64 b1) := xw1.cell qCl
 have b11 : w1.cell? ⟨w.heap.size, 1, none⟩ = some (.slice p0 s1.length c0) := xw1.cell qCl
 have b12 : w1.cell? ⟨w.heap.size, 2, none⟩ = some (.slice p1 t1.length c1) := xw1.cell qCl
 have b20 : w1.cell? ⟨w.heap.size + 1, 0, none⟩ = some (.int .i64 b2) := xw1.cell qCl
 have b21 : w1.cell? ⟨w.heap.size + 1, 1, none⟩ = some (.slice p4 s2.length c4) := xw1.cell qCl
 have b22 : w1.cell? ⟨w.heap.size + 1, 2, none⟩ = some (.slice p5 t2.length c5) := xw1.cell qCl
 have z_b1 : w.heap.size < w1.heap.size := qB b10
 have z_b2 : w.heap.size + 1 < w1.heap.size := qB b20
 have s_w1 : w.heap.size ≤ w1.heap.size := Xw1.size
 clear xw1
 cases hB3 : pairB mem b1 s1 t1 b2 s2 t2
 ·
  replace hB3 := Lib.hid hB3
  go_wp2_with fail
  go_ret2
  rw [show copyA mem b1 s1 t1 b2 s2 t2 = [] by unfold copyA; rw [hB3.out]; rfl, hB3.out]
  exact PIntsBC.nil (Xw1.trans qXt)
 ·
  replace hB3 := Lib.hid hB3
  obtain ⟨hp1, hp2, hp3⟩ := pair_in hB3.out
  obtain ⟨hf1, hf2, hf3, hf4⟩ := fill_in hp1
  obtain ⟨hg1, hg2, hg3, hg4⟩ := fill_in hp2
  have hll : (loadL mem b2 s2 t2).length ≤ 60 := by omega
  replace hp1 := Lib.hid hp1
  replace hp2 := Lib.hid hp2
  replace hp3 := Lib.hid hp3
  replace hf1 := Lib.hid hf1
  replace hf2 := Lib.hid hf2
  replace hg1 := Lib.hid hg1
  clear hg2
  go_wp2_with fail
  refine wp_region_tail (S := fun w' => w'.cell? ⟨w.heap.size, 0, none⟩ = some (.int .i64 b1) ∧ w'.cell? ⟨w.heap.size, 1, none⟩ = some (.slice p0 s1.length c0) ∧ w'.cell? ⟨w.heap.size, 2, none⟩ = some (.slice p1 t1.length c1) ∧ w'.cell? ⟨w.heap.size + 1, 0, none⟩ = some (.int .i64 b2) ∧ w'.cell? ⟨w.heap.size + 1, 1, none⟩ = some (.slice p4 s2.length c4) ∧ w'.cell? ⟨w.heap.size + 1, 2, none⟩ = some (.slice p5 t2.length c5)) (fun i => decide (8 ≤ i)) qKr ⟨b10, b11, b12, b20, b21, b22⟩ (fun hHeld => ?_)
  refine qTk (v := ?_) 0 rfl (.inl ⟨by rfl, ?_⟩) ?_
  rotate_left
  ·
   (intro w hSw; (try dsimp only at hSw); go_simp; try with_reducible rfl)
  try simp only [Act.put, qa, qb, qc, qD, qE, qF]
  refine qTk (v := ?_) 1 rfl (.inl ⟨by rfl, ?_⟩) ?_
  rotate_left
  ·
   (intro w hSw; (try dsimp only at hSw); go_simp; try with_reducible rfl)
  try simp only [Act.put, qa, qb, qc, qD, qE, qF]
  refine qTk (v := ?_) 2 rfl (.inl ⟨by rfl, ?_⟩) ?_
  rotate_left
  ·
   (intro w hSw; (try dsimp only at hSw); go_simp; try with_reducible rfl)
  try simp only [Act.put, qa, qb, qc, qD, qE, qF]
  refine qTk (v := ?_) 3 rfl (.inl ⟨by rfl, ?_⟩) ?_
  rotate_left
  ·
   (intro w hSw; (try dsimp only at hSw); go_simp; try with_reducible rfl)
  try simp only [Act.put, qa, qb, qc, qD, qE, qF]
  refine wpTail_one (i := 4) qKr rfl rfl (fun K hK => ?_)
  try simp only [Act.put, qa, qb, qc, qD, qE, qF]
  go_simp
  refine (load_c mem (.slice p2 mem.length c2) b2 (.slice p4 s2.length c4) (.slice p5 t2.length c5) s2 t2 _ _ _ _ (h0.ext (Xw1.trans qXt)) (h2.ext (Xw1.trans qXt)) (k2.ext (Xw1.trans qXt)) hp2.out).mono ?_
  rintro e w2 ⟨fv4, rfl, i5, i5z, xw2⟩
  have Lw2 : Ext w1 w2 := Ext.trans qXt xw2
  have Xw2 : Ext w w2 := Xw1.trans Lw2
  replace b10 := Lw2.cell b10
  replace b11 := Lw2.cell b11
  replace b12 := Lw2.cell b12
  replace b20 := Lw2.cell b20
  replace b21 := Lw2.cell b21
  replace b22 := Lw2.cell b22
  have z_b1 : w.heap.size < w2.heap.size := qB b10
  have z_b2 : w.heap.size + 1 < w2.heap.size := qB b20
  have s_w2 : w.heap.size ≤ w2.heap.size := Xw2.size
  clear xw2
  try simp only [World.size_alloc, World.size_drew] at i5
  try simp only [World.size_alloc, World.size_drew] at i5z
  obtain ⟨afv4, cfv4, rfl⟩ := i5.form
  refine hK.out _ _ ⟨b10, b11, b12, b20, b21, b22⟩ (fun hHeld => ?_)
  clear hK K
  try simp only [Act.put, qa, qb, qc, qD, qE, qF]
  refine wpTail_one (i := 5) qKr rfl rfl (fun K hK => ?_)
  try simp only [Act.put, qa, qb, qc, qD, qE, qF]
  go_simp
  refine (putZ_c mem (loadL mem b2 s2 t2) (.slice p2 mem.length c2) (.slice afv4 ((loadL mem b2 s2 t2).length) cfv4) b1 (.slice p0 s1.length c0) (.slice p1 t1.length c1) s1 t1 _ _ _ _ _ (h0.ext (Xw2.trans qXt)) (h1.ext (Xw2.trans qXt)) (k1.ext (Xw2.trans qXt)) (i5.ext qXt) hf3 hf1.out hf2.out hp3.out).mono ?_
  rintro e w3 ⟨fv6, rfl, i7, i7z, czfv6, xw3⟩
  have Lw3 : Ext w2 w3 := Ext.trans qXt xw3
  have Xw3 : Ext w w3 := Xw2.trans Lw3
  replace b10 := Lw3.cell b10
  replace b11 := Lw3.cell b11
  replace b12 := Lw3.cell b12
  replace b20 := Lw3.cell b20
  replace b21 := Lw3.cell b21
  replace b22 := Lw3.cell b22
  have z_b1 : w.heap.size < w3.heap.size := qB b10
  have z_b2 : w.heap.size + 1 < w3.heap.size := qB b20
  replace i5 := i5.ext Lw3
  replace i5z := i5z.ext Lw3
  have s_w3 : w.heap.size ≤ w3.heap.size := Xw3.size
  clear xw3
  try simp only [World.size_alloc, World.size_drew] at i7
  try simp only [World.size_alloc, World.size_drew] at i7z
  obtain ⟨afv6, cfv6, rfl⟩ := i7.form
  refine hK.out _ _ ⟨b10, b11, b12, b20, b21, b22⟩ (fun hHeld => ?_)
  clear hK K
  try simp only [Act.put, qa, qb, qc, qD, qE, qF]
  refine qTk (v := ?_) 6 rfl (.inl ⟨by rfl, ?_⟩) ?_
  rotate_left
  ·
   (intro w hSw; (try dsimp only at hSw); go_simp; try with_reducible rfl)
  try simp only [Act.put, qa, qb, qc, qD, qE, qF]
  refine qTk (v := ?_) 7 rfl (.inl ⟨by rfl, ?_⟩) ?_
  rotate_left
  ·
   (intro w hSw; (try dsimp only at hSw); go_simp; try with_reducible rfl)
  try simp only [Act.put, qa, qb, qc, qD, qE, qF]
  refine wpTail_done qKr ?_ _
  clear hHeld 
  go_wp2_with fail
  go_ret2
  rw [show copyA mem b1 s1 t1 b2 s2 t2 = putL mem (offsL b1 s1 t1) (loadL mem b2 s2 t2) by unfold copyA; rw [hB3.out]; rfl, hB3.out]
  exact ⟨_, rfl, i7.lower (by omega), i7z.lower (by omega), czfv6, Xw3⟩


end Go.Proofs.Ytgklaobfikbiiaa

/- Answers that are buffers: fill, copy, part; plain words and laws. No condition. -/
namespace Go.Proofs.Ytgklaobfikbiiaa
open Go.RowKit
set_option linter.unusedVariables false
set_option maxRecDepth 100000

/-- FillExport -/
def filA (cells : List Int) (es : List Exp) (i v : Int) : BBool :=
  if (bufB cells es && opB es i) && inB 0 255 v then (fillA cells (expAt es i.toNat).b (expAt es i.toNat).s (expAt es i.toNat).t v, es, true) else noBuf
theorem filA_small (cells : List Int) (es : List Exp) (i v : Int) : SmallB (filA cells es i v) := by
  unfold filA
  split
  · rename_i h
    simp only [Bool.and_eq_true] at h
    refine smallB_cells h.1.1 _ ?_
    rw [fillA_len (by unfold fillB; rw [open_holds h.1.1 h.1.2, h.2]; rfl)]
    exact (bufB_in h.1.1).2.1
  · exact SmallB.no rfl
/-- CopyExport -/
def cpyA (cells : List Int) (es : List Exp) (i j : Int) : BBool :=
  if (bufB cells es && (opB es i && opB es j)) && pairB cells (expAt es i.toNat).b (expAt es i.toNat).s (expAt es i.toNat).t (expAt es j.toNat).b (expAt es j.toNat).s (expAt es j.toNat).t then
    (copyA cells (expAt es i.toNat).b (expAt es i.toNat).s (expAt es i.toNat).t (expAt es j.toNat).b (expAt es j.toNat).s (expAt es j.toNat).t, es, true) else noBuf
theorem cpyA_small (cells : List Int) (es : List Exp) (i j : Int) : SmallB (cpyA cells es i j) := by
  unfold cpyA
  split
  · rename_i h
    rw [Bool.and_eq_true, Bool.and_eq_true] at h
    refine smallB_cells h.1.1 _ ?_
    rw [copyA_len h.2]
    exact (bufB_in h.1.1).2.1
  · exact SmallB.no rfl
/-- ExportPart -/
def parA (cells : List Int) (es : List Exp) (i d F T B : Int) (hf ht : Bool) : BBool :=
  if ((bufB cells es && opB es i) && decide (es.length < 8)) && (sliceV (expAt es i.toNat).b (expAt es i.toNat).s (expAt es i.toNat).t d F T B hf ht).2.2.2 then
    (cells, es ++ [⟨i, (sliceV (expAt es i.toNat).b (expAt es i.toNat).s (expAt es i.toNat).t d F T B hf ht).1, (sliceV (expAt es i.toNat).b (expAt es i.toNat).s (expAt es i.toNat).t d F T B hf ht).2.1, (sliceV (expAt es i.toNat).b (expAt es i.toNat).s (expAt es i.toNat).t d F T B hf ht).2.2.1, true⟩], true) else noBuf
theorem parA_small (cells : List Int) (es : List Exp) (i d F T B : Int) (hf ht : Bool) : SmallB (parA cells es i d F T B hf ht) := by
  unfold parA
  split
  · rename_i h
    simp only [Bool.and_eq_true] at h
    have hft := sliceV_fit (expAt es i.toNat).b (expAt es i.toNat).s (expAt es i.toNat).t d F T B hf ht
    exact smallB_app h.1.1.1 _ hft.2 (by show (sliceV (expAt es i.toNat).b (expAt es i.toNat).s (expAt es i.toNat).t d F T B hf ht).2.2.1.length ≤ 4; rw [hft.1]; exact hft.2)
  · exact SmallB.no rfl
end Go.Proofs.Ytgklaobfikbiiaa

/- Walks: FillExport of both. -/
namespace Go.Proofs.Ytgklaobfikbiiaa
open Go.RowKit
set_option linter.unusedVariables false
set_option maxRecDepth 100000

set_option maxHeartbeats 3200000 in
theorem specFillExport_c (cells : List Int) (es : List Exp) (cv ev : Value) (i x : Int) (w : World) (l1 l2 : Nat) (h1 : Ints w l1 cv cells) (h2 : Exps w l2 ev es) :
  Calls Try.prog 88 #[.agg #[cv, ev], .int .i64 i, .int .i64 x] w (PBX w (filA cells es i x)) := by
 obtain ⟨p0, c0, rfl⟩ := h1.form
 obtain ⟨p1, c1, rfl⟩ := h2.form
 have he1 := h2.len
 have hc1 := h1.len
 go_enter Try.func88, Try.ntmps88
 go_wp2_with fail
 refine (validBuffer_c cells es (.slice p0 cells.length c0) (.slice p1 es.length c1) _ _ _ (h1.ext qXt) (h2.ext qXt)).mono ?_
 rintro e w1 ⟨rfl, xw1⟩
 have Lw1 : Ext w w1 := Ext.trans qXt xw1
 have Xw1 : Ext w w1 := Lw1
 have b10 : w1.cell? ⟨w.heap.size, 0, none⟩ = some (.slice p0 cells.length c0) := xw1.cell qCl
 have b11 : w1.cell? ⟨w.heap.size, 1, none⟩ = some (.slice p1 es.length c1) := xw1.cell qCl
 have b20 : w1.cell? ⟨w.heap.size + 1, 0, none⟩ = some (.slice none 0 0) := xw1.cell qCl
 have b21 : w1.cell? ⟨w.heap.size + 1, 1, none⟩ = some (.slice none 0 0) := xw1.cell qCl
 have f_b20 : w1.frozen? ⟨w.heap.size + 1, 0, none⟩ = false := xw1.frz (by simp <;> omega) qFz
 have f_b21 : w1.frozen? ⟨w.heap.size + 1, 1, none⟩ = false := xw1.frz (by simp <;> omega) qFz
 have z_b1 : w.heap.size < w1.heap.size := qB b10
 have z_b2 : w.heap.size + 1 < w1.heap.size := qB b20
 have s_w1 : w.heap.size ≤ w1.heap.size := Xw1.size
 clear xw1
 cases hB3 : bufB cells es
 ·
  replace hB3 := Lib.hid hB3
  go_wp2_with fail
  generalize hW5 : ((w1.setCell ⟨w.heap.size + 1, 0, none⟩ (.slice none 0 0)).setCell ⟨w.heap.size + 1, 1, none⟩ (.slice none 0 0)) = w2 at *
  have Kw2 : Chg (w.heap.size + 1) (w.heap.size + 1 + 1) w1 w2 := by subst hW5; exact qCh
  have Xw2 : Ext w w2 := by subst hW5; exact qXt
  replace b10 := Kw2.cell (by omega) b10
  replace b11 := Kw2.cell (by omega) b11
  replace b20 : w2.cell? ⟨w.heap.size + 1, 0, none⟩ = some (.slice none 0 0) := by subst hW5; go_simp
  replace f_b20 : w2.frozen? ⟨w.heap.size + 1, 0, none⟩ = false := by subst hW5; first | (simp only [World.frozen?_setCell]; with_reducible assumption) | go_simp
  replace b21 : w2.cell? ⟨w.heap.size + 1, 1, none⟩ = some (.slice none 0 0) := by subst hW5; go_simp
  replace f_b21 : w2.frozen? ⟨w.heap.size + 1, 1, none⟩ = false := by subst hW5; first | (simp only [World.frozen?_setCell]; with_reducible assumption) | go_simp
  clear Kw2
  have z_b1 : w.heap.size < w2.heap.size := qB b10
  have z_b2 : w.heap.size + 1 < w2.heap.size := qB b20
  have s_w2 : w.heap.size ≤ w2.heap.size := Xw2.size
  clear hW5
  refine bodyPost_ret (v := .tuple #[.agg #[.slice none 0 0, .slice none 0 0], .bool false]) (by simp only [results, Try.results88]; go_simp) rfl ?_
  exact PBX.no (by unfold filA; rw [(show (bufB cells es && opB es i) = false by rw [hB3.out]; rfl), Bool.false_and]; rfl) (Xw2.trans qXt)
 ·
  replace hB3 := Lib.hid hB3
  have hbb : Hid (bufB cells es = true) := Lib.hid hB3.out
  go_wp2_with fail
  refine (specIsOpen_c cells es (.slice p0 cells.length c0) (.slice p1 es.length c1) i _ _ _ (h1.ext (Xw1.trans qXt)) (h2.ext (Xw1.trans qXt))).mono ?_
  rintro e w2 ⟨rfl, xw2⟩
  have Lw2 : Ext w1 w2 := Ext.trans qXt xw2
  have Xw2 : Ext w w2 := Xw1.trans Lw2
  replace b10 := Lw2.cell b10
  replace b11 := Lw2.cell b11
  replace b20 := Lw2.cell b20
  replace b21 := Lw2.cell b21
  replace f_b20 := Lw2.frz z_b2 f_b20
  replace f_b21 := Lw2.frz z_b2 f_b21
  have z_b1 : w.heap.size < w2.heap.size := qB b10
  have z_b2 : w.heap.size + 1 < w2.heap.size := qB b20
  have s_w2 : w.heap.size ≤ w2.heap.size := Xw2.size
  clear xw2
  cases hB4 : opB es i
  ·
   replace hB4 := Lib.hid hB4
   go_wp2_with fail
   generalize hW6 : ((w2.setCell ⟨w.heap.size + 1, 0, none⟩ (.slice none 0 0)).setCell ⟨w.heap.size + 1, 1, none⟩ (.slice none 0 0)) = w3 at *
   have Kw3 : Chg (w.heap.size + 1) (w.heap.size + 1 + 1) w2 w3 := by subst hW6; exact qCh
   have Xw3 : Ext w w3 := by subst hW6; exact qXt
   replace b10 := Kw3.cell (by omega) b10
   replace b11 := Kw3.cell (by omega) b11
   replace b20 : w3.cell? ⟨w.heap.size + 1, 0, none⟩ = some (.slice none 0 0) := by subst hW6; go_simp
   replace f_b20 : w3.frozen? ⟨w.heap.size + 1, 0, none⟩ = false := by subst hW6; first | (simp only [World.frozen?_setCell]; with_reducible assumption) | go_simp
   replace b21 : w3.cell? ⟨w.heap.size + 1, 1, none⟩ = some (.slice none 0 0) := by subst hW6; go_simp
   replace f_b21 : w3.frozen? ⟨w.heap.size + 1, 1, none⟩ = false := by subst hW6; first | (simp only [World.frozen?_setCell]; with_reducible assumption) | go_simp
   clear Kw3
   have z_b1 : w.heap.size < w3.heap.size := qB b10
   have z_b2 : w.heap.size + 1 < w3.heap.size := qB b20
   have s_w3 : w.heap.size ≤ w3.heap.size := Xw3.size
   clear hW6
   refine bodyPost_ret (v := .tuple #[.agg #[.slice none 0 0, .slice none 0 0], .bool false]) (by simp only [results, Try.results88]; go_simp) rfl ?_
   exact PBX.no (by unfold filA; rw [(show (bufB cells es && opB es i) = false by rw [hB4.out, Bool.and_false]), Bool.false_and]; rfl) (Xw3.trans qXt)
  ·
   replace hB4 := Lib.hid hB4
   have hop : Hid (opB es i = true) := Lib.hid hB4.out
   obtain ⟨hi0, hi1, hi2⟩ := opB_in hop.out
   obtain ⟨k, rfl⟩ : ∃ k : Nat, i = k := ⟨i.toNat, by omega⟩
   have hlt : k < es.length := by omega
   have hesne : Hid (es ≠ []) := Lib.hid (fun h => by rw [h] at hlt; exact absurd hlt (by simp))
   replace hi2 := Lib.hid hi2
   go_wp2_with fail
   refine (inRange_c x 0 255 _).mono ?_
   rintro e w' ⟨rfl, rfl⟩
   cases hB5 : inB 0 255 x
   ·
    replace hB5 := Lib.hid hB5
    go_wp2_with fail
    generalize hW7 : ((w2.setCell ⟨w.heap.size + 1, 0, none⟩ (.slice none 0 0)).setCell ⟨w.heap.size + 1, 1, none⟩ (.slice none 0 0)) = w3 at *
    have Kw3 : Chg (w.heap.size + 1) (w.heap.size + 1 + 1) w2 w3 := by subst hW7; exact qCh
    have Xw3 : Ext w w3 := by subst hW7; exact qXt
    replace b10 := Kw3.cell (by omega) b10
    replace b11 := Kw3.cell (by omega) b11
    replace b20 : w3.cell? ⟨w.heap.size + 1, 0, none⟩ = some (.slice none 0 0) := by subst hW7; go_simp
    replace f_b20 : w3.frozen? ⟨w.heap.size + 1, 0, none⟩ = false := by subst hW7; first | (simp only [World.frozen?_setCell]; with_reducible assumption) | go_simp
    replace b21 : w3.cell? ⟨w.heap.size + 1, 1, none⟩ = some (.slice none 0 0) := by subst hW7; go_simp
    replace f_b21 : w3.frozen? ⟨w.heap.size + 1, 1, none⟩ = false := by subst hW7; first | (simp only [World.frozen?_setCell]; with_reducible assumption) | go_simp
    clear Kw3
    have z_b1 : w.heap.size < w3.heap.size := qB b10
    have z_b2 : w.heap.size + 1 < w3.heap.size := qB b20
    have s_w3 : w.heap.size ≤ w3.heap.size := Xw3.size
    clear hW7
    refine bodyPost_ret (v := .tuple #[.agg #[.slice none 0 0, .slice none 0 0], .bool false]) (by simp only [results, Try.results88]; go_simp) rfl ?_
    exact PBX.no (by unfold filA; rw [hB5.out, Bool.and_false]; rfl) (Xw3.trans qXt)
   ·
    replace hB5 := Lib.hid hB5
    go_wp2_with fail
    have Q9_b10 := Lib.hid b10
    have Q9_b11 := Lib.hid b11
    have Q9_zb1 := z_b1
    have Q9_b20 := Lib.hid b20
    have Q9_f_b20 := Lib.hid f_b20
    have Q9_b21 := Lib.hid b21
    have Q9_f_b21 := Lib.hid f_b21
    have Q9_zb2 := z_b2
    have BL10 : Ext w2 w2 := Ext.refl _
    refine (specCopyBuffer_c cells es (.slice p0 cells.length c0) (.slice p1 es.length c1) _ _ _ (h1.ext (Xw2.trans qXt)) (h2.ext (Xw2.trans qXt))).mono ?_
    rintro e w3 ⟨cvfb7, evfb7, R8, rfl, bf6, xw3⟩
    have Lw3 : Ext w2 w3 := Ext.trans qXt xw3
    have Xw3 : Ext w w3 := Xw2.trans Lw3
    replace b10 := Lw3.cell b10
    replace b11 := Lw3.cell b11
    replace b20 := Lw3.cell b20
    replace b21 := Lw3.cell b21
    replace f_b20 := Lw3.frz z_b2 f_b20
    replace f_b21 := Lw3.frz z_b2 f_b21
    have z_b1 : w.heap.size < w3.heap.size := qB b10
    have z_b2 : w.heap.size + 1 < w3.heap.size := qB b20
    have s_w3 : w.heap.size ≤ w3.heap.size := Xw3.size
    have BL10_w3 : Ext w2 w3 := BL10.trans Lw3
    clear xw3
    replace bf6 := bf6.lower (lo' := w2.heap.size) qSo
    obtain ⟨afb7, cfb7, rfl⟩ := bf6.ints.form
    obtain ⟨efb7, dfb7, rfl⟩ := bf6.exps.form
    have q_bf6 := Lib.hid bf6.at
    have Q11_b10 := Lib.hid b10
    have Q11_b11 := Lib.hid b11
    have Q11_zb1 := z_b1
    have Q11_b20 := Lib.hid b20
    have Q11_f_b20 := Lib.hid f_b20
    have Q11_b21 := Lib.hid b21
    have Q11_f_b21 := Lib.hid f_b21
    have Q11_zb2 := z_b2
    have Q11_bf6 := Lib.hid bf6
    have BL12 : Ext w3 w3 := Ext.refl _
    go_wp2_with fail
    have zn_BL10_w4 := (BL10_w3).size
    have zn_BL12_w4 := (BL12).size
    generalize hW8 : w3.alloc (.cells #[.slice afb7 cells.length cfb7, .slice efb7 es.length dfb7] 26) = w4 at *
    have Lw4 : Ext w3 w4 := by subst hW8; exact qXt
    have Xw4 : Ext w w4 := Xw3.trans Lw4
    replace b10 := Lw4.cell b10
    replace b11 := Lw4.cell b11
    replace b20 := Lw4.cell b20
    replace b21 := Lw4.cell b21
    replace f_b20 := Lw4.frz z_b2 f_b20
    replace f_b21 := Lw4.frz z_b2 f_b21
    have b130 : w4.cell? ⟨w3.heap.size, 0, none⟩ = some (.slice afb7 cells.length cfb7) := by subst hW8; exact qCl
    have b131 : w4.cell? ⟨w3.heap.size, 1, none⟩ = some (.slice efb7 es.length dfb7) := by subst hW8; exact qCl
    have f_b130 : w4.frozen? ⟨w3.heap.size, 0, none⟩ = false := by subst hW8; exact qFz
    have f_b131 : w4.frozen? ⟨w3.heap.size, 1, none⟩ = false := by subst hW8; exact qFz
    have z_b1 : w.heap.size < w4.heap.size := qB b10
    have z_b2 : w.heap.size + 1 < w4.heap.size := qB b20
    have z_b13 : w3.heap.size < w4.heap.size := qB b130
    replace bf6 := bf6.ext Lw4
    have s_w4 : w.heap.size ≤ w4.heap.size := Xw4.size
    have BL10_w4 : Ext w2 w4 := BL10_w3.trans Lw4
    have BL12_w4 : Ext w3 w4 := BL12.trans Lw4
    clear hW8
    have hN_x14 : k < es.length := hlt
    have hI_x14 : (k : Int) < (es.length : Int) := by omega
    obtain ⟨bl27, ol28, u21, c22, u23, c24, rfl, x140, x141, x142, x143, x144, i25, i26⟩ := h2.at k hN_x14
    obtain ⟨X20, hX20⟩ : ∃ x, expAt es k = x := ⟨_, rfl⟩
    rw [hX20] at x140 x141 x142 x143 x144 i25 i26
    obtain ⟨P15, B16, S17, T18, O19⟩ := X20
    dsimp only at x140 x141 x142 x143 x144 i25 i26
    replace hX20 := Lib.hid hX20
    have hLS17 := i25.len
    have hLT18 := i26.len
    have y_x14 : bl27 < w.heap.size := qB x140
    replace x140 := Xw4.cell x140
    replace x141 := Xw4.cell x141
    replace x142 := Xw4.cell x142
    replace x143 := Xw4.cell x143
    replace x144 := Xw4.cell x144
    have z_x14 : bl27 < w4.heap.size := qB x140
    have hh7 : Hid (holdB cells B16 S17 T18 = true) := Lib.hid (by have h7 := open_holds hbb.out hop.out; rw [Int.toNat_natCast, hX20.out] at h7; exact h7)
    have hfe : Hid (fillB cells B16 S17 T18 x = inB 0 255 x) := Lib.hid (by unfold fillB; rw [hh7.out, Bool.true_and])
    have hc60 := (bufB_in hbb.out).2.1
    have hfb : Hid (fillB cells B16 S17 T18 x = true) := Lib.hid (by rw [hfe.out]; exact hB5.out)
    have hfl : (fillA cells B16 S17 T18 x).length ≤ 60 := by rw [fillA_len hfb.out]; omega
    go_wp2_with fail
    refine wp_region_held_drew (S := fun w' => w'.cell? ⟨w.heap.size, 0, none⟩ = some (.slice p0 cells.length c0) ∧ w'.cell? ⟨w.heap.size, 1, none⟩ = some (.slice (some ⟨bl27, ol28, none⟩) es.length c1) ∧ w'.cell? ⟨bl27, ol28 + k * 5 + 1, none⟩ = some (.int .i64 B16) ∧ w'.cell? ⟨bl27, ol28 + k * 5 + 2, none⟩ = some (.slice u21 S17.length c22) ∧ w'.cell? ⟨bl27, ol28 + k * 5 + 3, none⟩ = some (.slice u23 T18.length c24)) qKr ⟨b10, b11, x141, x142, x143⟩ (fun hHeld => ?_)
    refine qHk (v := ?_) 0 rfl (.inl ⟨by rfl, ?_⟩) ?_
    rotate_left
    ·
     (intro w hSw; (try dsimp only at hSw); go_simp; try with_reducible rfl)
    try simp only [Act.put, qa, qb, qc, qD, qE, qF]
    refine qHk (v := ?_) 1 rfl (.inl ⟨by rfl, ?_⟩) ?_
    rotate_left
    ·
     (intro w hSw; (try dsimp only at hSw); go_simp; try with_reducible rfl)
    try simp only [Act.put, qa, qb, qc, qD, qE, qF]
    refine qHk (v := ?_) 2 rfl (.inl ⟨by rfl, ?_⟩) ?_
    rotate_left
    ·
     (intro w hSw; (try dsimp only at hSw); go_simp; try with_reducible rfl)
    try simp only [Act.put, qa, qb, qc, qD, qE, qF]
    refine qHk (v := ?_) 3 rfl (.inl ⟨by rfl, ?_⟩) ?_
    rotate_left
    ·
     (intro w hSw; (try dsimp only at hSw); go_simp; try with_reducible rfl)
    try simp only [Act.put, qa, qb, qc, qD, qE, qF]
    refine qHk (v := ?_) 4 rfl (.inl ⟨by rfl, ?_⟩) ?_
    rotate_left
    ·
     (intro w hSw; (try dsimp only at hSw); go_simp; try with_reducible rfl)
    try simp only [Act.put, qa, qb, qc, qD, qE, qF]
    refine qHk (v := ?_) 5 rfl (.inl ⟨by rfl, ?_⟩) ?_
    rotate_left
    ·
     (intro w hSw; (try dsimp only at hSw); go_simp; try with_reducible rfl)
    try simp only [Act.put, qa, qb, qc, qD, qE, qF]
    refine qHk (v := ?_) 6 rfl (.inl ⟨by rfl, ?_⟩) ?_
    rotate_left
    ·
     (intro w hSw; (try dsimp only at hSw); go_simp; try with_reducible rfl)
    try simp only [Act.put, qa, qb, qc, qD, qE, qF]
    refine qHk (v := ?_) 7 rfl (.inl ⟨by rfl, ?_⟩) ?_
    rotate_left
    ·
     (intro w hSw; (try dsimp only at hSw); go_simp; try with_reducible rfl)
    try simp only [Act.put, qa, qb, qc, qD, qE, qF]
    refine qHk (v := ?_) 8 rfl (.inl ⟨by rfl, ?_⟩) ?_
    rotate_left
    ·
     (intro w hSw; (try dsimp only at hSw); go_simp; try with_reducible rfl)
    try simp only [Act.put, qa, qb, qc, qD, qE, qF]
    refine qHr 9 rfl (fun K hK => ?_)
    try simp only [Act.put, qa, qb, qc, qD, qE, qF]
    go_simp
    refine (specFillView_c cells (.slice p0 cells.length c0) B16 (.slice u21 S17.length c22) (.slice u23 T18.length c24) S17 T18 x _ _ (h1.ext (Xw4.trans qXt)) _ _ (i25.ext (Xw4.trans qXt)) (i26.ext (Xw4.trans qXt))).mono ?_
    rintro e w5 ⟨fv29, rfl, i30, i30z, czfv29, xw5⟩
    have Lw5 : Ext w4 w5 := Ext.trans qXt xw5
    have Xw5 : Ext w w5 := Xw4.trans Lw5
    replace b10 := Lw5.cell b10
    replace b11 := Lw5.cell b11
    replace b20 := Lw5.cell b20
    replace b21 := Lw5.cell b21
    replace f_b20 := Lw5.frz z_b2 f_b20
    replace f_b21 := Lw5.frz z_b2 f_b21
    replace b130 := Lw5.cell b130
    replace b131 := Lw5.cell b131
    replace f_b130 := Lw5.frz z_b13 f_b130
    replace f_b131 := Lw5.frz z_b13 f_b131
    replace x140 := Lw5.cell x140
    replace x141 := Lw5.cell x141
    replace x142 := Lw5.cell x142
    replace x143 := Lw5.cell x143
    replace x144 := Lw5.cell x144
    have z_b1 : w.heap.size < w5.heap.size := qB b10
    have z_b2 : w.heap.size + 1 < w5.heap.size := qB b20
    have z_b13 : w3.heap.size < w5.heap.size := qB b130
    have z_x14 : bl27 < w5.heap.size := qB x140
    replace bf6 := bf6.ext Lw5
    have s_w5 : w.heap.size ≤ w5.heap.size := Xw5.size
    have BL10_w5 : Ext w2 w5 := BL10_w4.trans Lw5
    have BL12_w5 : Ext w3 w5 := BL12_w4.trans Lw5
    clear xw5
    try simp only [World.size_alloc, World.size_drew] at i30
    try simp only [World.size_alloc, World.size_drew] at i30z
    obtain ⟨afv29, cfv29, rfl⟩ := i30.form
    rw [hfb.out]
    refine hK.out _ _ ⟨b10, b11, x141, x142, x143⟩ (fun hHeld => ?_)
    clear hK K
    try simp only [Act.put, qa, qb, qc, qD, qE, qF]
    refine qHk (v := ?_) 10 rfl (.inl ⟨by rfl, ?_⟩) ?_
    rotate_left
    ·
     (intro w hSw; (try dsimp only at hSw); go_simp; try with_reducible rfl)
    try simp only [Act.put, qa, qb, qc, qD, qE, qF]
    refine qHk (v := ?_) 11 rfl (.inl ⟨by rfl, ?_⟩) ?_
    rotate_left
    ·
     (intro w hSw; (try dsimp only at hSw); go_simp; try with_reducible rfl)
    try simp only [Act.put, qa, qb, qc, qD, qE, qF]
    refine qHk (v := ?_) 12 rfl (.inl ⟨by rfl, ?_⟩) ?_
    rotate_left
    ·
     (intro w hSw; (try dsimp only at hSw); go_simp; try with_reducible rfl)
    try simp only [Act.put, qa, qb, qc, qD, qE, qF]
    refine qHk (v := ?_) 13 rfl (.inl ⟨by rfl, ?_⟩) ?_
    rotate_left
    ·
     (intro w hSw; (try dsimp only at hSw); go_simp; try with_reducible rfl)
    try simp only [Act.put, qa, qb, qc, qD, qE, qF]
    refine qHr 14 rfl (fun K hK => ?_)
    try simp only [Act.put, qa, qb, qc, qD, qE, qF]
    go_simp
    generalize hW9 : (w5.setCell ⟨w3.heap.size, 0, none⟩ (.slice afv29 ((fillA cells B16 S17 T18 x).length) cfv29)) = w6 at *
    have Kw6 : Chg (w3.heap.size) (w3.heap.size + 1) w5 w6 := by subst hW9; exact qCh
    have Xw6 : Ext w w6 := by subst hW9; exact qXt
    have BL10_w6 : Ext w2 w6 := by subst hW9; exact qXt
    have BL12_w6 : Ext w3 w6 := by subst hW9; exact qXt
    replace b10 := Kw6.cell (by omega) b10
    replace b11 := Kw6.cell (by omega) b11
    replace b20 := BL12_w6.cell Q11_b20.out
    replace f_b20 := BL12_w6.frz Q11_zb2 Q11_f_b20.out
    replace b21 := BL12_w6.cell Q11_b21.out
    replace f_b21 := BL12_w6.frz Q11_zb2 Q11_f_b21.out
    replace b130 : w6.cell? ⟨w3.heap.size, 0, none⟩ = some (.slice afv29 ((fillA cells B16 S17 T18 x).length) cfv29) := by subst hW9; go_simp
    replace f_b130 : w6.frozen? ⟨w3.heap.size, 0, none⟩ = false := by subst hW9; first | (simp only [World.frozen?_setCell]; with_reducible assumption) | go_simp
    replace b131 : w6.cell? ⟨w3.heap.size, 1, none⟩ = some (.slice efb7 es.length dfb7) := by subst hW9; go_simp
    replace f_b131 : w6.frozen? ⟨w3.heap.size, 1, none⟩ = false := by subst hW9; first | (simp only [World.frozen?_setCell]; with_reducible assumption) | go_simp
    replace x140 := Kw6.cell (by omega) x140
    replace x141 := Kw6.cell (by omega) x141
    replace x142 := Kw6.cell (by omega) x142
    replace x143 := Kw6.cell (by omega) x143
    replace x144 := Kw6.cell (by omega) x144
    replace bf6 := (Q11_bf6.out).ext BL12_w6
    replace i30 := i30.chg Kw6 (by omega)
    replace i30z := i30z.chg Kw6 (by omega)
    clear Kw6
    have z_b1 : w.heap.size < w6.heap.size := qB b10
    have z_b2 : w.heap.size + 1 < w6.heap.size := qB b20
    have z_b13 : w3.heap.size < w6.heap.size := qB b130
    have z_x14 : bl27 < w6.heap.size := qB x140
    have s_w6 : w.heap.size ≤ w6.heap.size := Xw6.size
    clear hW9
    refine hK.out _ _ ⟨b10, b11, x141, x142, x143⟩ (fun hHeld => ?_)
    clear hK K
    try simp only [Act.put, qa, qb, qc, qD, qE, qF]
    refine wpAnyH_done qKr ?_ _
    clear hHeld 
    go_wp2_with fail
    generalize hW10 : ((w6.setCell ⟨w.heap.size + 1, 0, none⟩ (.slice afv29 ((fillA cells B16 S17 T18 x).length) cfv29)).setCell ⟨w.heap.size + 1, 1, none⟩ (.slice efb7 es.length dfb7)) = w7 at *
    have Kw7 : Chg (w.heap.size + 1) (w.heap.size + 1 + 1) w6 w7 := by subst hW10; exact qCh
    have Xw7 : Ext w w7 := by subst hW10; exact qXt
    replace b10 := Kw7.cell (by omega) b10
    replace b11 := Kw7.cell (by omega) b11
    replace b20 : w7.cell? ⟨w.heap.size + 1, 0, none⟩ = some (.slice afv29 ((fillA cells B16 S17 T18 x).length) cfv29) := by subst hW10; go_simp
    replace f_b20 : w7.frozen? ⟨w.heap.size + 1, 0, none⟩ = false := by subst hW10; first | (simp only [World.frozen?_setCell]; with_reducible assumption) | go_simp
    replace b21 : w7.cell? ⟨w.heap.size + 1, 1, none⟩ = some (.slice efb7 es.length dfb7) := by subst hW10; go_simp
    replace f_b21 : w7.frozen? ⟨w.heap.size + 1, 1, none⟩ = false := by subst hW10; first | (simp only [World.frozen?_setCell]; with_reducible assumption) | go_simp
    replace b130 := Kw7.cell (by omega) b130
    replace f_b130 := Kw7.frzO (by omega) z_b13 f_b130
    replace b131 := Kw7.cell (by omega) b131
    replace f_b131 := Kw7.frzO (by omega) z_b13 f_b131
    replace x140 := Kw7.cell (by omega) x140
    replace x141 := Kw7.cell (by omega) x141
    replace x142 := Kw7.cell (by omega) x142
    replace x143 := Kw7.cell (by omega) x143
    replace x144 := Kw7.cell (by omega) x144
    replace bf6 := bf6.chg Kw7 (by omega)
    replace i30 := i30.chg Kw7 (by omega)
    replace i30z := i30z.chg Kw7 (by omega)
    clear Kw7
    have z_b1 : w.heap.size < w7.heap.size := qB b10
    have z_b2 : w.heap.size + 1 < w7.heap.size := qB b20
    have z_b13 : w3.heap.size < w7.heap.size := qB b130
    have z_x14 : bl27 < w7.heap.size := qB x140
    have s_w7 : w.heap.size ≤ w7.heap.size := Xw7.size
    clear hW10
    refine bodyPost_ret (v := .tuple #[.agg #[.slice afv29 ((fillA cells B16 S17 T18 x).length) cfv29, .slice efb7 es.length dfb7], .bool true]) (by simp only [results, Try.results88]; go_simp) rfl ?_
    have eqA : filA cells es (k : Int) x = (fillA cells B16 S17 T18 x, es, true) := by unfold filA; rw [hbb.out, hop.out, show inB 0 255 x = true from hB5.out, Int.toNat_natCast, hX20.out]; rfl
    exact PBX.yes eqA ((bf6.cellsQ (lo2 := w.heap.size) (by omega) q_bf6.out (i30z.lower (by omega)) czfv29 (by omega) (fun hs g hg => by obtain ⟨g7, h7, h8, h9⟩ := i30z.lt hs; rw [hg] at h7; cases h7; omega)).ext qXt) (Xw7.trans qXt)


end Go.Proofs.Ytgklaobfikbiiaa

/- Walks: CopyExport of both. -/
namespace Go.Proofs.Ytgklaobfikbiiaa
open Go.RowKit
set_option linter.unusedVariables false
set_option maxRecDepth 100000

set_option maxHeartbeats 3200000 in
theorem specCopyExport_c (cells : List Int) (es : List Exp) (cv ev : Value) (i j : Int) (w : World) (l1 l2 : Nat) (h1 : Ints w l1 cv cells) (h2 : Exps w l2 ev es) :
  Calls Try.prog 89 #[.agg #[cv, ev], .int .i64 i, .int .i64 j] w (PBX w (cpyA cells es i j)) := by
 obtain ⟨p0, c0, rfl⟩ := h1.form
 obtain ⟨p1, c1, rfl⟩ := h2.form
 have he1 := h2.len
 have hc1 := h1.len
 go_enter Try.func89, Try.ntmps89
 go_wp2_with fail
 refine (validBuffer_c cells es (.slice p0 cells.length c0) (.slice p1 es.length c1) _ _ _ (h1.ext qXt) (h2.ext qXt)).mono ?_
 rintro e w1 ⟨rfl, xw1⟩
 have Lw1 : Ext w w1 := Ext.trans qXt xw1
 have Xw1 : Ext w w1 := Lw1
 have b10 : w1.cell? ⟨w.heap.size, 0, none⟩ = some (.slice p0 cells.length c0) := xw1.cell qCl
 have b11 : w1.cell? ⟨w.heap.size, 1, none⟩ = some (.slice p1 es.length c1) := xw1.cell qCl
 have b20 : w1.cell? ⟨w.heap.size + 1, 0, none⟩ = some (.slice none 0 0) := xw1.cell qCl
 have b21 : w1.cell? ⟨w.heap.size + 1, 1, none⟩ = some (.slice none 0 0) := xw1.cell qCl
 have f_b20 : w1.frozen? ⟨w.heap.size + 1, 0, none⟩ = false := xw1.frz (by simp <;> omega) qFz
 have f_b21 : w1.frozen? ⟨w.heap.size + 1, 1, none⟩ = false := xw1.frz (by simp <;> omega) qFz
 have z_b1 : w.heap.size < w1.heap.size := qB b10
 have z_b2 : w.heap.size + 1 < w1.heap.size := qB b20
 have s_w1 : w.heap.size ≤ w1.heap.size := Xw1.size
 clear xw1
 cases hB3 : bufB cells es
 ·
  replace hB3 := Lib.hid hB3
  go_wp2_with fail
  generalize hW6 : ((w1.setCell ⟨w.heap.size + 1, 0, none⟩ (.slice none 0 0)).setCell ⟨w.heap.size + 1, 1, none⟩ (.slice none 0 0)) = w2 at *
  have Kw2 : Chg (w.heap.size + 1) (w.heap.size + 1 + 1) w1 w2 := by subst hW6; exact qCh
  have Xw2 : Ext w w2 := by subst hW6; exact qXt
  replace b10 := Kw2.cell (by omega) b10
  replace b11 := Kw2.cell (by omega) b11
  replace b20 : w2.cell? ⟨w.heap.size + 1, 0, none⟩ = some (.slice none 0 0) := by subst hW6; go_simp
  replace f_b20 : w2.frozen? ⟨w.heap.size + 1, 0, none⟩ = false := by subst hW6; first | (simp only [World.frozen?_setCell]; with_reducible assumption) | go_simp
  replace b21 : w2.cell? ⟨w.heap.size + 1, 1, none⟩ = some (.slice none 0 0) := by subst hW6; go_simp
  replace f_b21 : w2.frozen? ⟨w.heap.size + 1, 1, none⟩ = false := by subst hW6; first | (simp only [World.frozen?_setCell]; with_reducible assumption) | go_simp
  clear Kw2
  have z_b1 : w.heap.size < w2.heap.size := qB b10
  have z_b2 : w.heap.size + 1 < w2.heap.size := qB b20
  have s_w2 : w.heap.size ≤ w2.heap.size := Xw2.size
  clear hW6
  refine bodyPost_ret (v := .tuple #[.agg #[.slice none 0 0, .slice none 0 0], .bool false]) (by simp only [results, Try.results89]; go_simp) rfl ?_
  exact PBX.no (by unfold cpyA; rw [(show (bufB cells es && (opB es i && opB es j)) = false by rw [hB3.out]; rfl), Bool.false_and]; rfl) (Xw2.trans qXt)
 ·
  replace hB3 := Lib.hid hB3
  have hbb : Hid (bufB cells es = true) := Lib.hid hB3.out
  go_wp2_with fail
  refine (specIsOpen_c cells es (.slice p0 cells.length c0) (.slice p1 es.length c1) i _ _ _ (h1.ext (Xw1.trans qXt)) (h2.ext (Xw1.trans qXt))).mono ?_
  rintro e w2 ⟨rfl, xw2⟩
  have Lw2 : Ext w1 w2 := Ext.trans qXt xw2
  have Xw2 : Ext w w2 := Xw1.trans Lw2
  replace b10 := Lw2.cell b10
  replace b11 := Lw2.cell b11
  replace b20 := Lw2.cell b20
  replace b21 := Lw2.cell b21
  replace f_b20 := Lw2.frz z_b2 f_b20
  replace f_b21 := Lw2.frz z_b2 f_b21
  have z_b1 : w.heap.size < w2.heap.size := qB b10
  have z_b2 : w.heap.size + 1 < w2.heap.size := qB b20
  have s_w2 : w.heap.size ≤ w2.heap.size := Xw2.size
  clear xw2
  cases hB4 : opB es i
  ·
   replace hB4 := Lib.hid hB4
   go_wp2_with fail
   generalize hW7 : ((w2.setCell ⟨w.heap.size + 1, 0, none⟩ (.slice none 0 0)).setCell ⟨w.heap.size + 1, 1, none⟩ (.slice none 0 0)) = w3 at *
   have Kw3 : Chg (w.heap.size + 1) (w.heap.size + 1 + 1) w2 w3 := by subst hW7; exact qCh
   have Xw3 : Ext w w3 := by subst hW7; exact qXt
   replace b10 := Kw3.cell (by omega) b10
   replace b11 := Kw3.cell (by omega) b11
   replace b20 : w3.cell? ⟨w.heap.size + 1, 0, none⟩ = some (.slice none 0 0) := by subst hW7; go_simp
   replace f_b20 : w3.frozen? ⟨w.heap.size + 1, 0, none⟩ = false := by subst hW7; first | (simp only [World.frozen?_setCell]; with_reducible assumption) | go_simp
   replace b21 : w3.cell? ⟨w.heap.size + 1, 1, none⟩ = some (.slice none 0 0) := by subst hW7; go_simp
   replace f_b21 : w3.frozen? ⟨w.heap.size + 1, 1, none⟩ = false := by subst hW7; first | (simp only [World.frozen?_setCell]; with_reducible assumption) | go_simp
   clear Kw3
   have z_b1 : w.heap.size < w3.heap.size := qB b10
   have z_b2 : w.heap.size + 1 < w3.heap.size := qB b20
   have s_w3 : w.heap.size ≤ w3.heap.size := Xw3.size
   clear hW7
   refine bodyPost_ret (v := .tuple #[.agg #[.slice none 0 0, .slice none 0 0], .bool false]) (by simp only [results, Try.results89]; go_simp) rfl ?_
   exact PBX.no (by unfold cpyA; rw [(show (bufB cells es && (opB es i && opB es j)) = false by rw [hB4.out, Bool.false_and, Bool.and_false]), Bool.false_and]; rfl) (Xw3.trans qXt)
  ·
   replace hB4 := Lib.hid hB4
   have hop : Hid (opB es i = true) := Lib.hid hB4.out
   obtain ⟨hop0, hop1, hop2⟩ := opB_in hop.out
   obtain ⟨k, rfl⟩ : ∃ q : Nat, i = q := ⟨i.toNat, by omega⟩
   have hltk : k < es.length := by omega
   replace hop2 := Lib.hid hop2
   go_wp2_with fail
   refine (specIsOpen_c cells es (.slice p0 cells.length c0) (.slice p1 es.length c1) j _ _ _ (h1.ext (Xw2.trans qXt)) (h2.ext (Xw2.trans qXt))).mono ?_
   rintro e w3 ⟨rfl, xw3⟩
   have Lw3 : Ext w2 w3 := Ext.trans qXt xw3
   have Xw3 : Ext w w3 := Xw2.trans Lw3
   replace b10 := Lw3.cell b10
   replace b11 := Lw3.cell b11
   replace b20 := Lw3.cell b20
   replace b21 := Lw3.cell b21
   replace f_b20 := Lw3.frz z_b2 f_b20
   replace f_b21 := Lw3.frz z_b2 f_b21
   have z_b1 : w.heap.size < w3.heap.size := qB b10
   have z_b2 : w.heap.size + 1 < w3.heap.size := qB b20
   have s_w3 : w.heap.size ≤ w3.heap.size := Xw3.size
   clear xw3
   cases hB5 : opB es j
   ·
    replace hB5 := Lib.hid hB5
    go_wp2_with fail
    generalize hW8 : ((w3.setCell ⟨w.heap.size + 1, 0, none⟩ (.slice none 0 0)).setCell ⟨w.heap.size + 1, 1, none⟩ (.slice none 0 0)) = w4 at *
    have Kw4 : Chg (w.heap.size + 1) (w.heap.size + 1 + 1) w3 w4 := by subst hW8; exact qCh
    have Xw4 : Ext w w4 := by subst hW8; exact qXt
    replace b10 := Kw4.cell (by omega) b10
    replace b11 := Kw4.cell (by omega) b11
    replace b20 : w4.cell? ⟨w.heap.size + 1, 0, none⟩ = some (.slice none 0 0) := by subst hW8; go_simp
    replace f_b20 : w4.frozen? ⟨w.heap.size + 1, 0, none⟩ = false := by subst hW8; first | (simp only [World.frozen?_setCell]; with_reducible assumption) | go_simp
    replace b21 : w4.cell? ⟨w.heap.size + 1, 1, none⟩ = some (.slice none 0 0) := by subst hW8; go_simp
    replace f_b21 : w4.frozen? ⟨w.heap.size + 1, 1, none⟩ = false := by subst hW8; first | (simp only [World.frozen?_setCell]; with_reducible assumption) | go_simp
    clear Kw4
    have z_b1 : w.heap.size < w4.heap.size := qB b10
    have z_b2 : w.heap.size + 1 < w4.heap.size := qB b20
    have s_w4 : w.heap.size ≤ w4.heap.size := Xw4.size
    clear hW8
    refine bodyPost_ret (v := .tuple #[.agg #[.slice none 0 0, .slice none 0 0], .bool false]) (by simp only [results, Try.results89]; go_simp) rfl ?_
    exact PBX.no (by unfold cpyA; rw [(show (bufB cells es && (opB es (k : Int) && opB es j)) = false by rw [hB5.out, Bool.and_false, Bool.and_false]), Bool.false_and]; rfl) (Xw4.trans qXt)
   ·
    replace hB5 := Lib.hid hB5
    have hoq : Hid (opB es j = true) := Lib.hid hB5.out
    obtain ⟨hoq0, hoq1, hoq2⟩ := opB_in hoq.out
    obtain ⟨m, rfl⟩ : ∃ q : Nat, j = q := ⟨j.toNat, by omega⟩
    have hltm : m < es.length := by omega
    replace hoq2 := Lib.hid hoq2
    go_wp2_with fail
    have hN_x6 : k < es.length := hltk
    have hI_x6 : (k : Int) < (es.length : Int) := by omega
    obtain ⟨bl19, ol20, u13, c14, u15, c16, rfl, x60, x61, x62, x63, x64, i17, i18⟩ := h2.at k hN_x6
    obtain ⟨X12, hX12⟩ : ∃ x, expAt es k = x := ⟨_, rfl⟩
    rw [hX12] at x60 x61 x62 x63 x64 i17 i18
    obtain ⟨P7, B8, S9, T10, O11⟩ := X12
    dsimp only at x60 x61 x62 x63 x64 i17 i18
    replace hX12 := Lib.hid hX12
    have hLS9 := i17.len
    have hLT10 := i18.len
    have y_x6 : bl19 < w.heap.size := qB x60
    replace x60 := Xw3.cell x60
    replace x61 := Xw3.cell x61
    replace x62 := Xw3.cell x62
    replace x63 := Xw3.cell x63
    replace x64 := Xw3.cell x64
    have z_x6 : bl19 < w3.heap.size := qB x60
    have hN_x21 : m < es.length := hltm
    have hI_x21 : (m : Int) < (es.length : Int) := by omega
    obtain ⟨b_x21, o_x21, u28, c29, u30, c31, h_x21, x210, x211, x212, x213, x214, i32, i33⟩ := h2.at m hN_x21
    cases h_x21
    obtain ⟨X27, hX27⟩ : ∃ x, expAt es m = x := ⟨_, rfl⟩
    rw [hX27] at x210 x211 x212 x213 x214 i32 i33
    obtain ⟨P22, B23, S24, T25, O26⟩ := X27
    dsimp only at x210 x211 x212 x213 x214 i32 i33
    replace hX27 := Lib.hid hX27
    have hLS24 := i32.len
    have hLT25 := i33.len
    have y_x21 : bl19 < w.heap.size := qB x210
    replace x210 := Xw3.cell x210
    replace x211 := Xw3.cell x211
    replace x212 := Xw3.cell x212
    replace x213 := Xw3.cell x213
    replace x214 := Xw3.cell x214
    have z_x21 : bl19 < w3.heap.size := qB x210
    have hc60 := (bufB_in hbb.out).2.1
    go_wp2_with fail
    refine wp_region_tail (S := fun w' => w'.cell? ⟨w.heap.size, 0, none⟩ = some (.slice p0 cells.length c0) ∧ w'.cell? ⟨w.heap.size, 1, none⟩ = some (.slice (some ⟨bl19, ol20, none⟩) es.length c1) ∧ w'.cell? ⟨bl19, ol20 + k * 5 + 1, none⟩ = some (.int .i64 B8) ∧ w'.cell? ⟨bl19, ol20 + k * 5 + 2, none⟩ = some (.slice u13 S9.length c14) ∧ w'.cell? ⟨bl19, ol20 + k * 5 + 3, none⟩ = some (.slice u15 T10.length c16) ∧ w'.cell? ⟨bl19, ol20 + m * 5 + 1, none⟩ = some (.int .i64 B23) ∧ w'.cell? ⟨bl19, ol20 + m * 5 + 2, none⟩ = some (.slice u28 S24.length c29) ∧ w'.cell? ⟨bl19, ol20 + m * 5 + 3, none⟩ = some (.slice u30 T25.length c31)) (fun i => decide (20 ≤ i)) qKr ⟨b10, b11, x61, x62, x63, x211, x212, x213⟩ (fun hHeld => ?_)
    refine qTk (v := ?_) 0 rfl (.inl ⟨by rfl, ?_⟩) ?_
    rotate_left
    ·
     (intro w hSw; (try dsimp only at hSw); go_simp; try with_reducible rfl)
    try simp only [Act.put, qa, qb, qc, qD, qE, qF]
    refine qTk (v := ?_) 1 rfl (.inl ⟨by rfl, ?_⟩) ?_
    rotate_left
    ·
     (intro w hSw; (try dsimp only at hSw); go_simp; try with_reducible rfl)
    try simp only [Act.put, qa, qb, qc, qD, qE, qF]
    refine qTk (v := ?_) 2 rfl (.inl ⟨by rfl, ?_⟩) ?_
    rotate_left
    ·
     (intro w hSw; (try dsimp only at hSw); go_simp; try with_reducible rfl)
    try simp only [Act.put, qa, qb, qc, qD, qE, qF]
    refine qTk (v := ?_) 3 rfl (.inl ⟨by rfl, ?_⟩) ?_
    rotate_left
    ·
     (intro w hSw; (try dsimp only at hSw); go_simp; try with_reducible rfl)
    try simp only [Act.put, qa, qb, qc, qD, qE, qF]
    refine qTk (v := ?_) 4 rfl (.inl ⟨by rfl, ?_⟩) ?_
    rotate_left
    ·
     (intro w hSw; (try dsimp only at hSw); go_simp; try with_reducible rfl)
    try simp only [Act.put, qa, qb, qc, qD, qE, qF]
    refine qTk (v := ?_) 5 rfl (.inl ⟨by rfl, ?_⟩) ?_
    rotate_left
    ·
     (intro w hSw; (try dsimp only at hSw); go_simp; try with_reducible rfl)
    try simp only [Act.put, qa, qb, qc, qD, qE, qF]
    refine qTk (v := ?_) 6 rfl (.inl ⟨by rfl, ?_⟩) ?_
    rotate_left
    ·
     (intro w hSw; (try dsimp only at hSw); go_simp; try with_reducible rfl)
    try simp only [Act.put, qa, qb, qc, qD, qE, qF]
    refine qTk (v := ?_) 7 rfl (.inl ⟨by rfl, ?_⟩) ?_
    rotate_left
    ·
     (intro w hSw; (try dsimp only at hSw); go_simp; try with_reducible rfl)
    try simp only [Act.put, qa, qb, qc, qD, qE, qF]
    refine qTk (v := ?_) 8 rfl (.inl ⟨by rfl, ?_⟩) ?_
    rotate_left
    ·
     (intro w hSw; (try dsimp only at hSw); go_simp; try with_reducible rfl)
    try simp only [Act.put, qa, qb, qc, qD, qE, qF]
    refine qTk (v := ?_) 9 rfl (.inl ⟨by rfl, ?_⟩) ?_
    rotate_left
    ·
     (intro w hSw; (try dsimp only at hSw); go_simp; try with_reducible rfl)
    try simp only [Act.put, qa, qb, qc, qD, qE, qF]
    refine qTk (v := ?_) 10 rfl (.inl ⟨by rfl, ?_⟩) ?_
    rotate_left
    ·
     (intro w hSw; (try dsimp only at hSw); go_simp; try with_reducible rfl)
    try simp only [Act.put, qa, qb, qc, qD, qE, qF]
    refine qTk (v := ?_) 11 rfl (.inl ⟨by rfl, ?_⟩) ?_
    rotate_left
    ·
     (intro w hSw; (try dsimp only at hSw); go_simp; try with_reducible rfl)
    try simp only [Act.put, qa, qb, qc, qD, qE, qF]
    refine qTk (v := ?_) 12 rfl (.inl ⟨by rfl, ?_⟩) ?_
    rotate_left
    ·
     (intro w hSw; (try dsimp only at hSw); go_simp; try with_reducible rfl)
    try simp only [Act.put, qa, qb, qc, qD, qE, qF]
    refine qTk (v := ?_) 13 rfl (.inl ⟨by rfl, ?_⟩) ?_
    rotate_left
    ·
     (intro w hSw; (try dsimp only at hSw); go_simp; try with_reducible rfl)
    try simp only [Act.put, qa, qb, qc, qD, qE, qF]
    refine wpTail_one (i := 14) qKr rfl rfl (fun K hK => ?_)
    try simp only [Act.put, qa, qb, qc, qD, qE, qF]
    go_simp
    refine (specCopyView_c cells (.slice p0 cells.length c0) B8 (.slice u13 S9.length c14) (.slice u15 T10.length c16) S9 T10 B23 (.slice u28 S24.length c29) (.slice u30 T25.length c31) S24 T25 _ _ (h1.ext (Xw3.trans qXt)) _ _ (i17.ext (Xw3.trans qXt)) (i18.ext (Xw3.trans qXt)) _ _ (i32.ext (Xw3.trans qXt)) (i33.ext (Xw3.trans qXt))).mono ?_
    rintro e w4 ⟨fv36, rfl, i37, i37z, czfv36, xw4⟩
    have Lw4 : Ext w3 w4 := Ext.trans qXt xw4
    have Xw4 : Ext w w4 := Xw3.trans Lw4
    replace b10 := Lw4.cell b10
    replace b11 := Lw4.cell b11
    replace b20 := Lw4.cell b20
    replace b21 := Lw4.cell b21
    replace f_b20 := Lw4.frz z_b2 f_b20
    replace f_b21 := Lw4.frz z_b2 f_b21
    replace x60 := Lw4.cell x60
    replace x61 := Lw4.cell x61
    replace x62 := Lw4.cell x62
    replace x63 := Lw4.cell x63
    replace x64 := Lw4.cell x64
    replace x210 := Lw4.cell x210
    replace x211 := Lw4.cell x211
    replace x212 := Lw4.cell x212
    replace x213 := Lw4.cell x213
    replace x214 := Lw4.cell x214
    have z_b1 : w.heap.size < w4.heap.size := qB b10
    have z_b2 : w.heap.size + 1 < w4.heap.size := qB b20
    have z_x6 : bl19 < w4.heap.size := qB x60
    have z_x21 : bl19 < w4.heap.size := qB x210
    have s_w4 : w.heap.size ≤ w4.heap.size := Xw4.size
    clear xw4
    try simp only [World.size_alloc, World.size_drew] at i37
    try simp only [World.size_alloc, World.size_drew] at i37z
    obtain ⟨afv36, cfv36, rfl⟩ := i37.form
    cases hB38 : pairB cells B8 S9 T10 B23 S24 T25
    ·
     replace hB38 := Lib.hid hB38
     refine hK.out _ _ ⟨b10, b11, x61, x62, x63, x211, x212, x213⟩ (fun hHeld => ?_)
     clear hK K
     try simp only [Act.put, qa, qb, qc, qD, qE, qF]
     refine qTk (v := ?_) 15 rfl (.inl ⟨by rfl, ?_⟩) ?_
     rotate_left
     ·
      (intro w hSw; (try dsimp only at hSw); go_simp; try with_reducible rfl)
     try simp only [Act.put, qa, qb, qc, qD, qE, qF]
     refine qTk (v := ?_) 16 rfl (.inl ⟨by rfl, ?_⟩) ?_
     rotate_left
     ·
      (intro w hSw; (try dsimp only at hSw); go_simp; try with_reducible rfl)
     try simp only [Act.put, qa, qb, qc, qD, qE, qF]
     refine qTk (v := ?_) 17 rfl (.inl ⟨by rfl, ?_⟩) ?_
     rotate_left
     ·
      (intro w hSw; (try dsimp only at hSw); go_simp; try with_reducible rfl)
     try simp only [Act.put, qa, qb, qc, qD, qE, qF]
     refine qTk (v := ?_) 18 rfl (.inl ⟨by rfl, ?_⟩) ?_
     rotate_left
     ·
      (intro w hSw; (try dsimp only at hSw); go_simp; try with_reducible rfl)
     try simp only [Act.put, qa, qb, qc, qD, qE, qF]
     refine qTk (v := ?_) 19 rfl (.inl ⟨by rfl, ?_⟩) ?_
     rotate_left
     ·
      (intro w hSw; (try dsimp only at hSw); go_simp; try with_reducible rfl)
     try simp only [Act.put, qa, qb, qc, qD, qE, qF]
     refine wpTail_done qKr ?_ _
     clear hHeld 
     go_wp2_with fail
     generalize hW9 : ((w4.setCell ⟨w.heap.size + 1, 0, none⟩ (.slice none 0 0)).setCell ⟨w.heap.size + 1, 1, none⟩ (.slice none 0 0)) = w5 at *
     have Kw5 : Chg (w.heap.size + 1) (w.heap.size + 1 + 1) w4 w5 := by subst hW9; exact qCh
     have Xw5 : Ext w w5 := by subst hW9; exact qXt
     replace b10 := Kw5.cell (by omega) b10
     replace b11 := Kw5.cell (by omega) b11
     replace b20 : w5.cell? ⟨w.heap.size + 1, 0, none⟩ = some (.slice none 0 0) := by subst hW9; go_simp
     replace f_b20 : w5.frozen? ⟨w.heap.size + 1, 0, none⟩ = false := by subst hW9; first | (simp only [World.frozen?_setCell]; with_reducible assumption) | go_simp
     replace b21 : w5.cell? ⟨w.heap.size + 1, 1, none⟩ = some (.slice none 0 0) := by subst hW9; go_simp
     replace f_b21 : w5.frozen? ⟨w.heap.size + 1, 1, none⟩ = false := by subst hW9; first | (simp only [World.frozen?_setCell]; with_reducible assumption) | go_simp
     replace x60 := Kw5.cell (by omega) x60
     replace x61 := Kw5.cell (by omega) x61
     replace x62 := Kw5.cell (by omega) x62
     replace x63 := Kw5.cell (by omega) x63
     replace x64 := Kw5.cell (by omega) x64
     replace x210 := Kw5.cell (by omega) x210
     replace x211 := Kw5.cell (by omega) x211
     replace x212 := Kw5.cell (by omega) x212
     replace x213 := Kw5.cell (by omega) x213
     replace x214 := Kw5.cell (by omega) x214
     replace i37 := i37.chg Kw5 (by omega)
     replace i37z := i37z.chg Kw5 (by omega)
     clear Kw5
     have z_b1 : w.heap.size < w5.heap.size := qB b10
     have z_b2 : w.heap.size + 1 < w5.heap.size := qB b20
     have z_x6 : bl19 < w5.heap.size := qB x60
     have z_x21 : bl19 < w5.heap.size := qB x210
     have s_w5 : w.heap.size ≤ w5.heap.size := Xw5.size
     clear hW9
     refine bodyPost_ret (v := .tuple #[.agg #[.slice none 0 0, .slice none 0 0], .bool false]) (by simp only [results, Try.results89]; go_simp) rfl ?_
     exact PBX.no (by unfold cpyA; simp only [Int.toNat_natCast]; rw [hX12.out, hX27.out]; dsimp only; rw [hB38.out, Bool.and_false]; rfl) (Xw5.trans qXt)
    ·
     replace hB38 := Lib.hid hB38
     have hfl : (copyA cells B8 S9 T10 B23 S24 T25).length ≤ 60 := by rw [copyA_len hB38.out]; omega
     have hbd := Lib.hid i37z.bound
     refine hK.out _ _ ⟨b10, b11, x61, x62, x63, x211, x212, x213⟩ (fun hHeld => ?_)
     clear hK K
     try simp only [Act.put, qa, qb, qc, qD, qE, qF]
     refine qTk (v := ?_) 15 rfl (.inl ⟨by rfl, ?_⟩) ?_
     rotate_left
     ·
      (intro w hSw; (try dsimp only at hSw); go_simp; try with_reducible rfl)
     try simp only [Act.put, qa, qb, qc, qD, qE, qF]
     refine qTk (v := ?_) 16 rfl (.inl ⟨by rfl, ?_⟩) ?_
     rotate_left
     ·
      (intro w hSw; (try dsimp only at hSw); go_simp; try with_reducible rfl)
     try simp only [Act.put, qa, qb, qc, qD, qE, qF]
     refine qTk (v := ?_) 17 rfl (.inl ⟨by rfl, ?_⟩) ?_
     rotate_left
     ·
      (intro w hSw; (try dsimp only at hSw); go_simp; try with_reducible rfl)
     try simp only [Act.put, qa, qb, qc, qD, qE, qF]
     refine qTk (v := ?_) 18 rfl (.inl ⟨by rfl, ?_⟩) ?_
     rotate_left
     ·
      (intro w hSw; (try dsimp only at hSw); go_simp; try with_reducible rfl)
     try simp only [Act.put, qa, qb, qc, qD, qE, qF]
     refine qTk (v := ?_) 19 rfl (.inl ⟨by rfl, ?_⟩) ?_
     rotate_left
     ·
      (intro w hSw; (try dsimp only at hSw); go_simp; try with_reducible rfl)
     try simp only [Act.put, qa, qb, qc, qD, qE, qF]
     refine wpTail_done qKr ?_ _
     clear hHeld 
     go_wp2_with fail
     have Q42_b10 := Lib.hid b10
     have Q42_b11 := Lib.hid b11
     have Q42_zb1 := z_b1
     have Q42_b20 := Lib.hid b20
     have Q42_f_b20 := Lib.hid f_b20
     have Q42_b21 := Lib.hid b21
     have Q42_f_b21 := Lib.hid f_b21
     have Q42_zb2 := z_b2
     have Q42_x60 := Lib.hid x60
     have Q42_x61 := Lib.hid x61
     have Q42_x62 := Lib.hid x62
     have Q42_x63 := Lib.hid x63
     have Q42_x64 := Lib.hid x64
     have Q42_zx6 := z_x6
     have Q42_x210 := Lib.hid x210
     have Q42_x211 := Lib.hid x211
     have Q42_x212 := Lib.hid x212
     have Q42_x213 := Lib.hid x213
     have Q42_x214 := Lib.hid x214
     have Q42_zx21 := z_x21
     have Q42_i37 := Lib.hid i37
     have Q42_i37z := Lib.hid i37z
     have BL43 : Ext w4 w4 := Ext.refl _
     refine (specCopyBuffer_c cells es (.slice p0 cells.length c0) (.slice (some ⟨bl19, ol20, none⟩) es.length c1) _ _ _ (h1.ext (Xw4.trans qXt)) (h2.ext (Xw4.trans qXt))).mono ?_
     rintro e w5 ⟨cvfb40, evfb40, R41, rfl, bf39, xw5⟩
     have Lw5 : Ext w4 w5 := Ext.trans qXt xw5
     have Xw5 : Ext w w5 := Xw4.trans Lw5
     replace b10 := Lw5.cell b10
     replace b11 := Lw5.cell b11
     replace b20 := Lw5.cell b20
     replace b21 := Lw5.cell b21
     replace f_b20 := Lw5.frz z_b2 f_b20
     replace f_b21 := Lw5.frz z_b2 f_b21
     replace x60 := Lw5.cell x60
     replace x61 := Lw5.cell x61
     replace x62 := Lw5.cell x62
     replace x63 := Lw5.cell x63
     replace x64 := Lw5.cell x64
     replace x210 := Lw5.cell x210
     replace x211 := Lw5.cell x211
     replace x212 := Lw5.cell x212
     replace x213 := Lw5.cell x213
     replace x214 := Lw5.cell x214
     have z_b1 : w.heap.size < w5.heap.size := qB b10
     have z_b2 : w.heap.size + 1 < w5.heap.size := qB b20
     have z_x6 : bl19 < w5.heap.size := qB x60
     have z_x21 : bl19 < w5.heap.size := qB x210
     replace i37 := i37.ext Lw5
     replace i37z := i37z.ext Lw5
     have s_w5 : w.heap.size ≤ w5.heap.size := Xw5.size
     have BL43_w5 : Ext w4 w5 := BL43.trans Lw5
     clear xw5
     replace bf39 := bf39.lower (lo' := w4.heap.size) qSo
     obtain ⟨afb40, cfb40, rfl⟩ := bf39.ints.form
     obtain ⟨efb40, dfb40, rfl⟩ := bf39.exps.form
     have q_bf39 := Lib.hid bf39.at
     have Q44_b10 := Lib.hid b10
     have Q44_b11 := Lib.hid b11
     have Q44_zb1 := z_b1
     have Q44_b20 := Lib.hid b20
     have Q44_f_b20 := Lib.hid f_b20
     have Q44_b21 := Lib.hid b21
     have Q44_f_b21 := Lib.hid f_b21
     have Q44_zb2 := z_b2
     have Q44_x60 := Lib.hid x60
     have Q44_x61 := Lib.hid x61
     have Q44_x62 := Lib.hid x62
     have Q44_x63 := Lib.hid x63
     have Q44_x64 := Lib.hid x64
     have Q44_zx6 := z_x6
     have Q44_x210 := Lib.hid x210
     have Q44_x211 := Lib.hid x211
     have Q44_x212 := Lib.hid x212
     have Q44_x213 := Lib.hid x213
     have Q44_x214 := Lib.hid x214
     have Q44_zx21 := z_x21
     have Q44_i37 := Lib.hid i37
     have Q44_i37z := Lib.hid i37z
     have Q44_bf39 := Lib.hid bf39
     have BL45 : Ext w5 w5 := Ext.refl _
     go_upto_region 8 with fail
     have zn_BL43_w6 := (BL43_w5).size
     have zn_BL45_w6 := (BL45).size
     generalize hW10 : w5.alloc (.cells #[.slice afv36 ((copyA cells B8 S9 T10 B23 S24 T25).length) cfv36, .slice efb40 es.length dfb40] 26) = w6 at *
     have Lw6 : Ext w5 w6 := by subst hW10; exact qXt
     have Xw6 : Ext w w6 := Xw5.trans Lw6
     replace b10 := Lw6.cell b10
     replace b11 := Lw6.cell b11
     replace b20 := Lw6.cell b20
     replace b21 := Lw6.cell b21
     replace f_b20 := Lw6.frz z_b2 f_b20
     replace f_b21 := Lw6.frz z_b2 f_b21
     replace x60 := Lw6.cell x60
     replace x61 := Lw6.cell x61
     replace x62 := Lw6.cell x62
     replace x63 := Lw6.cell x63
     replace x64 := Lw6.cell x64
     replace x210 := Lw6.cell x210
     replace x211 := Lw6.cell x211
     replace x212 := Lw6.cell x212
     replace x213 := Lw6.cell x213
     replace x214 := Lw6.cell x214
     have b460 : w6.cell? ⟨w5.heap.size, 0, none⟩ = some (.slice afv36 ((copyA cells B8 S9 T10 B23 S24 T25).length) cfv36) := by subst hW10; exact qCl
     have b461 : w6.cell? ⟨w5.heap.size, 1, none⟩ = some (.slice efb40 es.length dfb40) := by subst hW10; exact qCl
     have f_b460 : w6.frozen? ⟨w5.heap.size, 0, none⟩ = false := by subst hW10; exact qFz
     have f_b461 : w6.frozen? ⟨w5.heap.size, 1, none⟩ = false := by subst hW10; exact qFz
     have z_b1 : w.heap.size < w6.heap.size := qB b10
     have z_b2 : w.heap.size + 1 < w6.heap.size := qB b20
     have z_x6 : bl19 < w6.heap.size := qB x60
     have z_x21 : bl19 < w6.heap.size := qB x210
     have z_b46 : w5.heap.size < w6.heap.size := qB b460
     replace i37 := i37.ext Lw6
     replace i37z := i37z.ext Lw6
     replace bf39 := bf39.ext Lw6
     have s_w6 : w.heap.size ≤ w6.heap.size := Xw6.size
     have BL43_w6 : Ext w4 w6 := BL43_w5.trans Lw6
     have BL45_w6 : Ext w5 w6 := BL45.trans Lw6
     clear hW10
     go_wp2_with fail
     generalize hW11 : ((w6.setCell ⟨w.heap.size + 1, 0, none⟩ (.slice afv36 ((copyA cells B8 S9 T10 B23 S24 T25).length) cfv36)).setCell ⟨w.heap.size + 1, 1, none⟩ (.slice efb40 es.length dfb40)) = w7 at *
     have Kw7 : Chg (w.heap.size + 1) (w.heap.size + 1 + 1) w6 w7 := by subst hW11; exact qCh
     have Xw7 : Ext w w7 := by subst hW11; exact qXt
     replace b10 := Kw7.cell (by omega) b10
     replace b11 := Kw7.cell (by omega) b11
     replace b20 : w7.cell? ⟨w.heap.size + 1, 0, none⟩ = some (.slice afv36 ((copyA cells B8 S9 T10 B23 S24 T25).length) cfv36) := by subst hW11; go_simp
     replace f_b20 : w7.frozen? ⟨w.heap.size + 1, 0, none⟩ = false := by subst hW11; first | (simp only [World.frozen?_setCell]; with_reducible assumption) | go_simp
     replace b21 : w7.cell? ⟨w.heap.size + 1, 1, none⟩ = some (.slice efb40 es.length dfb40) := by subst hW11; go_simp
     replace f_b21 : w7.frozen? ⟨w.heap.size + 1, 1, none⟩ = false := by subst hW11; first | (simp only [World.frozen?_setCell]; with_reducible assumption) | go_simp
     replace x60 := Kw7.cell (by omega) x60
     replace x61 := Kw7.cell (by omega) x61
     replace x62 := Kw7.cell (by omega) x62
     replace x63 := Kw7.cell (by omega) x63
     replace x64 := Kw7.cell (by omega) x64
     replace x210 := Kw7.cell (by omega) x210
     replace x211 := Kw7.cell (by omega) x211
     replace x212 := Kw7.cell (by omega) x212
     replace x213 := Kw7.cell (by omega) x213
     replace x214 := Kw7.cell (by omega) x214
     replace b460 := Kw7.cell (by omega) b460
     replace f_b460 := Kw7.frzO (by omega) z_b46 f_b460
     replace b461 := Kw7.cell (by omega) b461
     replace f_b461 := Kw7.frzO (by omega) z_b46 f_b461
     replace i37 := i37.chg Kw7 (by omega)
     replace i37z := i37z.chg Kw7 (by omega)
     replace bf39 := bf39.chg Kw7 (by omega)
     clear Kw7
     have z_b1 : w.heap.size < w7.heap.size := qB b10
     have z_b2 : w.heap.size + 1 < w7.heap.size := qB b20
     have z_x6 : bl19 < w7.heap.size := qB x60
     have z_x21 : bl19 < w7.heap.size := qB x210
     have z_b46 : w5.heap.size < w7.heap.size := qB b460
     have s_w7 : w.heap.size ≤ w7.heap.size := Xw7.size
     clear hW11
     refine bodyPost_ret (v := .tuple #[.agg #[.slice afv36 ((copyA cells B8 S9 T10 B23 S24 T25).length) cfv36, .slice efb40 es.length dfb40], .bool true]) (by simp only [results, Try.results89]; go_simp) rfl ?_
     have eqA : cpyA cells es (k : Int) (m : Int) = (copyA cells B8 S9 T10 B23 S24 T25, es, true) := by unfold cpyA; simp only [Int.toNat_natCast]; rw [hX12.out, hX27.out]; dsimp only; rw [hbb.out, hop.out, hoq.out, hB38.out]; rfl
     exact PBX.yes eqA ((bf39.cellsB (lo2 := w.heap.size) (by omega) (i37z.lower (by omega)) czfv36 (by omega) (fun hs g hg => by have h7 := hbd.out hs g hg; omega)).ext qXt) (Xw7.trans qXt)


end Go.Proofs.Ytgklaobfikbiiaa

/- Walks: buffers with one export more. -/
namespace Go.Proofs.Ytgklaobfikbiiaa
open Go.RowKit
set_option linter.unusedVariables false
set_option maxRecDepth 100000

end Go.Proofs.Ytgklaobfikbiiaa

/- Walks: ExportView of both. -/
namespace Go.Proofs.Ytgklaobfikbiiaa
open Go.RowKit
set_option linter.unusedVariables false
set_option maxRecDepth 100000

set_option maxHeartbeats 3200000 in
theorem added_c (cells : List Int) (es : List Exp) (cv ev : Value) (pr : Int) (b1 : Int) (u1 v1 : Value) (s1 t1 : List Int) (w : World) (l1 l2 : Nat) (h1 : Ints w l1 cv cells) (h2 : Exps w l2 ev es) (l3 l4 : Nat) (k1 : Ints w l3 u1 s1) (k2 : Ints w l4 v1 t1) (h8 : es.length < 8) :
  Calls Try.prog 90 #[.agg #[cv, ev], .int .i64 pr, .agg #[.int .i64 b1, u1, v1]] w (PBuf w cells (es ++ [⟨pr, b1, s1, t1, true⟩])) := by
 obtain ⟨p0, c0, rfl⟩ := h1.form
 obtain ⟨p1, c1, rfl⟩ := h2.form
 have he1 := h2.len
 have hc1 := h1.len
 obtain ⟨p2, c2, rfl⟩ := k1.form
 obtain ⟨p3, c3, rfl⟩ := k2.form
 have hk1 := k1.len
 have hk2 := k2.len
 go_enter Try.func90, Try.ntmps90
 go_wp2_with fail
 refine (specCopyBuffer_c cells es (.slice p0 cells.length c0) (.slice p1 es.length c1) _ _ _ (h1.ext qXt) (h2.ext qXt)).mono ?_
 rintro e w1 ⟨cvfb5, evfb5, R6, rfl, bf4, xw1⟩
 have Lw1 : Ext w w1 := Ext.trans qXt xw1
 have Xw1 : Ext w w1 := Lw1
 have b10 : w1.cell? ⟨w.heap.size, 0, none⟩ = some (.slice p0 cells.length c0) := xw1.cell qCl
 have b11 : w1.cell? ⟨w.heap.size, 1, none⟩ = some (.slice p1 es.length c1) := xw1.cell qCl
 have b20 : w1.cell? ⟨w.heap.size + 1, 0, none⟩ = some (.int .i64 b1) := xw1.cell qCl
 have b21 : w1.cell? ⟨w.heap.size + 1, 1, none⟩ = some (.slice p2 s1.length c2) := xw1.cell qCl
 have b22 : w1.cell? ⟨w.heap.size + 1, 2, none⟩ = some (.slice p3 t1.length c3) := xw1.cell qCl
 have b30 : w1.cell? ⟨w.heap.size + 1 + 1, 0, none⟩ = some (.slice none 0 0) := xw1.cell qCl
 have b31 : w1.cell? ⟨w.heap.size + 1 + 1, 1, none⟩ = some (.slice none 0 0) := xw1.cell qCl
 have f_b30 : w1.frozen? ⟨w.heap.size + 1 + 1, 0, none⟩ = false := xw1.frz (by simp <;> omega) qFz
 have f_b31 : w1.frozen? ⟨w.heap.size + 1 + 1, 1, none⟩ = false := xw1.frz (by simp <;> omega) qFz
 have z_b1 : w.heap.size < w1.heap.size := qB b10
 have z_b2 : w.heap.size + 1 < w1.heap.size := qB b20
 have z_b3 : w.heap.size + 1 + 1 < w1.heap.size := qB b30
 have s_w1 : w.heap.size ≤ w1.heap.size := Xw1.size
 clear xw1
 replace bf4 := bf4.lower (lo' := w.heap.size + 1 + 1 + 1) qSo
 obtain ⟨afb5, cfb5, rfl⟩ := bf4.ints.form
 obtain ⟨efb5, dfb5, rfl⟩ := bf4.exps.form
 have q_bf4 := Lib.hid bf4.at
 have Q7_b10 := Lib.hid b10
 have Q7_b11 := Lib.hid b11
 have Q7_zb1 := z_b1
 have Q7_b20 := Lib.hid b20
 have Q7_b21 := Lib.hid b21
 have Q7_b22 := Lib.hid b22
 have Q7_zb2 := z_b2
 have Q7_b30 := Lib.hid b30
 have Q7_f_b30 := Lib.hid f_b30
 have Q7_b31 := Lib.hid b31
 have Q7_f_b31 := Lib.hid f_b31
 have Q7_zb3 := z_b3
 have Q7_bf4 := Lib.hid bf4
 have BL8 : Ext w1 w1 := Ext.refl _
 go_wp2_with fail
 generalize hW9 : w1.alloc (.cells #[.slice afb5 cells.length cfb5, .slice efb5 es.length dfb5] 26) = w2 at *
 have Lw2 : Ext w1 w2 := by subst hW9; exact qXt
 have Xw2 : Ext w w2 := Xw1.trans Lw2
 replace b10 := Lw2.cell b10
 replace b11 := Lw2.cell b11
 replace b20 := Lw2.cell b20
 replace b21 := Lw2.cell b21
 replace b22 := Lw2.cell b22
 replace b30 := Lw2.cell b30
 replace b31 := Lw2.cell b31
 replace f_b30 := Lw2.frz z_b3 f_b30
 replace f_b31 := Lw2.frz z_b3 f_b31
 have b90 : w2.cell? ⟨w1.heap.size, 0, none⟩ = some (.slice afb5 cells.length cfb5) := by subst hW9; exact qCl
 have b91 : w2.cell? ⟨w1.heap.size, 1, none⟩ = some (.slice efb5 es.length dfb5) := by subst hW9; exact qCl
 have f_b90 : w2.frozen? ⟨w1.heap.size, 0, none⟩ = false := by subst hW9; exact qFz
 have f_b91 : w2.frozen? ⟨w1.heap.size, 1, none⟩ = false := by subst hW9; exact qFz
 have z_b1 : w.heap.size < w2.heap.size := qB b10
 have z_b2 : w.heap.size + 1 < w2.heap.size := qB b20
 have z_b3 : w.heap.size + 1 + 1 < w2.heap.size := qB b30
 have z_b9 : w1.heap.size < w2.heap.size := qB b90
 replace bf4 := bf4.ext Lw2
 have s_w2 : w.heap.size ≤ w2.heap.size := Xw2.size
 have BL8_w2 : Ext w1 w2 := BL8.trans Lw2
 clear hW9
 have Q10_b10 := Lib.hid b10
 have Q10_b11 := Lib.hid b11
 have Q10_zb1 := z_b1
 have Q10_b20 := Lib.hid b20
 have Q10_b21 := Lib.hid b21
 have Q10_b22 := Lib.hid b22
 have Q10_zb2 := z_b2
 have Q10_b30 := Lib.hid b30
 have Q10_f_b30 := Lib.hid f_b30
 have Q10_b31 := Lib.hid b31
 have Q10_f_b31 := Lib.hid f_b31
 have Q10_zb3 := z_b3
 have Q10_b90 := Lib.hid b90
 have Q10_f_b90 := Lib.hid f_b90
 have Q10_b91 := Lib.hid b91
 have Q10_f_b91 := Lib.hid f_b91
 have Q10_zb9 := z_b9
 have Q10_bf4 := Lib.hid bf4
 have BL11 : Ext w2 w2 := Ext.refl _
 refine wp_region_tail (S := fun w' => w'.cell? ⟨w.heap.size + 1, 0, none⟩ = some (.int .i64 b1) ∧ w'.cell? ⟨w.heap.size + 1, 1, none⟩ = some (.slice p2 s1.length c2) ∧ w'.cell? ⟨w.heap.size + 1, 2, none⟩ = some (.slice p3 t1.length c3) ∧ w'.cell? ⟨w1.heap.size, 1, none⟩ = some (.slice efb5 es.length dfb5)) (fun i => decide (9 ≤ i)) qKr ⟨b20, b21, b22, b91⟩ (fun hHeld => ?_)
 refine qTk (v := ?_) 0 rfl (.inl ⟨by rfl, ?_⟩) ?_
 rotate_left
 ·
  (intro w hSw; (try dsimp only at hSw); go_simp; try with_reducible rfl)
 try simp only [Act.put, qa, qb, qc, qD, qE, qF]
 refine qTk (v := ?_) 1 rfl (.inl ⟨by rfl, ?_⟩) ?_
 rotate_left
 ·
  (intro w hSw; (try dsimp only at hSw); go_simp; try with_reducible rfl)
 try simp only [Act.put, qa, qb, qc, qD, qE, qF]
 refine qTk (v := ?_) 2 rfl (.inl ⟨by rfl, ?_⟩) ?_
 rotate_left
 ·
  (intro w hSw; (try dsimp only at hSw); go_simp; try with_reducible rfl)
 try simp only [Act.put, qa, qb, qc, qD, qE, qF]
 refine qTk (v := ?_) 3 rfl (.inl ⟨by rfl, ?_⟩) ?_
 rotate_left
 ·
  (intro w hSw; (try dsimp only at hSw); go_simp; try with_reducible rfl)
 try simp only [Act.put, qa, qb, qc, qD, qE, qF]
 refine wpTail_one (i := 4) qKr rfl rfl (fun K hK => ?_)
 try simp only [Act.put, qa, qb, qc, qD, qE, qF]
 go_simp
 refine (scopyView_c b1 (.slice p2 s1.length c2) (.slice p3 t1.length c3) s1 t1 _ _ _ (k1.ext (Xw2.trans qXt)) (k2.ext (Xw2.trans qXt))).mono ?_
 rintro e w3 ⟨fv12u, fv12v, rfl, i13u, i13v, i13uz, i13vz, i13s, xw3⟩
 have Lw3 : Ext w2 w3 := Ext.trans qXt xw3
 have Xw3 : Ext w w3 := Xw2.trans Lw3
 replace b10 := Lw3.cell b10
 replace b11 := Lw3.cell b11
 replace b20 := Lw3.cell b20
 replace b21 := Lw3.cell b21
 replace b22 := Lw3.cell b22
 replace b30 := Lw3.cell b30
 replace b31 := Lw3.cell b31
 replace f_b30 := Lw3.frz z_b3 f_b30
 replace f_b31 := Lw3.frz z_b3 f_b31
 replace b90 := Lw3.cell b90
 replace b91 := Lw3.cell b91
 replace f_b90 := Lw3.frz z_b9 f_b90
 replace f_b91 := Lw3.frz z_b9 f_b91
 have z_b1 : w.heap.size < w3.heap.size := qB b10
 have z_b2 : w.heap.size + 1 < w3.heap.size := qB b20
 have z_b3 : w.heap.size + 1 + 1 < w3.heap.size := qB b30
 have z_b9 : w1.heap.size < w3.heap.size := qB b90
 replace bf4 := bf4.ext Lw3
 have s_w3 : w.heap.size ≤ w3.heap.size := Xw3.size
 have BL8_w3 : Ext w1 w3 := BL8_w2.trans Lw3
 have BL11_w3 : Ext w2 w3 := BL11.trans Lw3
 clear xw3
 try simp only [World.size_alloc, World.size_drew] at i13u
 try simp only [World.size_alloc, World.size_drew] at i13v
 try simp only [World.size_alloc, World.size_drew] at i13uz
 try simp only [World.size_alloc, World.size_drew] at i13vz
 obtain ⟨afv12u, cfv12u, rfl⟩ := i13u.form
 obtain ⟨afv12v, cfv12v, rfl⟩ := i13v.form
 replace i13s := Lib.hid i13s
 refine hK.out _ _ ⟨b20, b21, b22, b91⟩ (fun hHeld => ?_)
 clear hK K
 try simp only [Act.put, qa, qb, qc, qD, qE, qF]
 refine qTk (v := ?_) 5 rfl (.inl ⟨by rfl, ?_⟩) ?_
 rotate_left
 ·
  (intro w hSw; (try dsimp only at hSw); go_simp; try with_reducible rfl)
 try simp only [Act.put, qa, qb, qc, qD, qE, qF]
 refine wpTail_one (i := 6) qKr rfl rfl (fun K hK => ?_)
 try simp only [Act.put, qa, qb, qc, qD, qE, qF]
 go_simp
 refine hK.out _ (w3.alloc (.cells #[.int .i64 pr, .int .i64 b1, .slice afv12u s1.length cfv12u, .slice afv12v t1.length cfv12v, .bool true] TEXPORT)) ⟨(show Ext w3 (w3.alloc (.cells #[.int .i64 pr, .int .i64 b1, .slice afv12u s1.length cfv12u, .slice afv12v t1.length cfv12v, .bool true] TEXPORT)) from qXt).cell b20, (show Ext w3 (w3.alloc (.cells #[.int .i64 pr, .int .i64 b1, .slice afv12u s1.length cfv12u, .slice afv12v t1.length cfv12v, .bool true] TEXPORT)) from qXt).cell b21, (show Ext w3 (w3.alloc (.cells #[.int .i64 pr, .int .i64 b1, .slice afv12u s1.length cfv12u, .slice afv12v t1.length cfv12v, .bool true] TEXPORT)) from qXt).cell b22, (show Ext w3 (w3.alloc (.cells #[.int .i64 pr, .int .i64 b1, .slice afv12u s1.length cfv12u, .slice afv12v t1.length cfv12v, .bool true] TEXPORT)) from qXt).cell b91⟩ (fun hHeld => ?_)
 clear hK K
 try simp only [Act.put, qa, qb, qc, qD, qE, qF]
 refine wpTail_one (i := 7) qKr rfl rfl (fun K hK => ?_)
 have EE : Ext w3 ((w3).alloc (.cells #[.int .i64 pr, .int .i64 b1, .slice afv12u s1.length cfv12u, .slice afv12v t1.length cfv12v, .bool true] TEXPORT)) := qXt
 have SS : SrcR ((w3).alloc (.cells #[.int .i64 pr, .int .i64 b1, .slice afv12u s1.length cfv12u, .slice afv12v t1.length cfv12v, .bool true] TEXPORT)) 5 (.slice (some ⟨w3.heap.size, 0, none⟩) 1 1) 1 [.int .i64 pr, .int .i64 b1, .slice afv12u s1.length cfv12u, .slice afv12v t1.length cfv12v, .bool true] := src_one (w3) _ rfl (by intro u hu; simp only [List.mem_cons, List.not_mem_nil, or_false] at hu; rcases hu with rfl | rfl | rfl | rfl | rfl <;> rfl)
 refine step_appC Try.underlying24 infoExp rfl (by decide) rfl (.tmp 11) (.tmp 16) rfl rfl rfl (bf4.ex.row.ext EE) SS (by rw [cellsE_len]; omega) (by rw [cellsE_len]; omega) (by simp <;> omega) ?_
 intro vw4 w4 ho hgr hbl hv
 have hS : BufR w4 (w.heap.size + 1 + 1 + 1) (.slice afb5 cells.length cfb5) vw4 cells (es ++ [⟨pr, b1, s1, t1, true⟩]) (extR R6 es.length (.slice afv12u s1.length cfv12u) (.slice afv12v t1.length cfv12v)) := BufR.appL Q10_bf4.out (Ext.trans BL11_w3 EE) ((i13uz.ext EE).lower (by omega)) ((i13vz.ext EE).lower (by omega)) (by dsimp only; omega) (by dsimp only; omega) i13s.out (fun hs g hg => by obtain ⟨g7, h7, h8, h9⟩ := i13uz.lt hs; rw [hg] at h7; cases h7; omega) (fun hs g hg => by obtain ⟨g7, h7, h8, h9⟩ := i13vz.lt hs; rw [hg] at h7; cases h7; omega) (by omega) ho hgr hv
 replace hS : BufS w4 (w.heap.size + 1 + 1 + 1) (0) (w.heap.size + 1 + 1 + 1) (w1.heap.size) (w2.heap.size) (.slice afb5 cells.length cfb5) vw4 cells (es ++ [⟨pr, b1, s1, t1, true⟩]) (extR R6 es.length (.slice afv12u s1.length cfv12u) (.slice afv12v t1.length cfv12v)) := BufS.mk' (W := (w3).alloc (.cells #[.int .i64 pr, .int .i64 b1, .slice afv12u s1.length cfv12u, .slice afv12v t1.length cfv12v, .bool true] TEXPORT)) hS q_bf4.out ((fun hs g hg => .inr (by obtain ⟨g7, h7, h8, h9⟩ := i13uz.lt hs; rw [hg] at h7; cases h7; exact h8))) ((fun hs g hg => .inr (by obtain ⟨g7, h7, h8, h9⟩ := i13vz.lt hs; rw [hg] at h7; cases h7; exact h8))) (by rcases hv with h7 | h7; exact .inl h7; exact .inr h7) (by have h7 := (BL11_w3).size; simp; omega)
 obtain ⟨pa14, pc15, hpv⟩ := hS.buf.ex.len
 rw [List.length_append, List.length_singleton] at hpv
 subst hpv
 have Kw4 : Chg (w.heap.size + 1 + 1 + 1) (w1.heap.size) w3 w4 := chg_row hgr (fun g hg => by have h7 := q_bf4.out.e g hg; omega)
 have zc_w4 := Kw4.size
 clear ho hgr hbl hv EE SS
 have Xw4 : Ext w w4 := Ext.chg Xw3 Kw4 (by omega)
 replace b10 := Kw4.cell (by omega) b10
 replace b11 := Kw4.cell (by omega) b11
 replace b20 := Kw4.cell (by omega) b20
 replace b21 := Kw4.cell (by omega) b21
 replace b22 := Kw4.cell (by omega) b22
 replace b30 := Kw4.cell (by omega) b30
 replace f_b30 := Kw4.frzO (by omega) z_b3 f_b30
 replace b31 := Kw4.cell (by omega) b31
 replace f_b31 := Kw4.frzO (by omega) z_b3 f_b31
 replace b90 := Kw4.cell (by omega) b90
 replace f_b90 := Kw4.frzO (by omega) z_b9 f_b90
 replace b91 := Kw4.cell (by omega) b91
 replace f_b91 := Kw4.frzO (by omega) z_b9 f_b91
 have z_b1 : w.heap.size < w4.heap.size := qB b10
 have z_b2 : w.heap.size + 1 < w4.heap.size := qB b20
 have z_b3 : w.heap.size + 1 + 1 < w4.heap.size := qB b30
 have z_b9 : w1.heap.size < w4.heap.size := qB b90
 clear i13u
 clear i13v
 clear i13uz
 clear i13vz
 clear bf4 q_bf4
 have bf4 := hS
 clear hS Kw4
 have s_w4 : w.heap.size ≤ w4.heap.size := Xw4.size
 refine hK.out _ _ ⟨b20, b21, b22, b91⟩ (fun hHeld => ?_)
 clear hK K
 try simp only [Act.put, qa, qb, qc, qD, qE, qF]
 refine qTk (v := ?_) 8 rfl (.inl ⟨by rfl, ?_⟩) ?_
 rotate_left
 ·
  (intro w hSw; (try dsimp only at hSw); go_simp; try with_reducible rfl)
 try simp only [Act.put, qa, qb, qc, qD, qE, qF]
 refine wpTail_last (i := 9) qKr rfl rfl (fun K hK => ?_)
 try simp only [Act.put, qa, qb, qc, qD, qE, qF]
 go_simp
 refine hK.out _ _ ?_
 clear hK K
 try simp only [Act.put, qa, qb, qc, qD, qE, qF]
 refine wpTail_done qKr ?_ _
 clear hHeld 
 generalize hW10 : (w4.setCell ⟨w1.heap.size, 1, none⟩ (.slice pa14 (es.length + 1) pc15)) = w5 at *
 have Kw5 : Chg (w1.heap.size) (w1.heap.size + 1) w4 w5 := by subst hW10; exact qCh
 have Xw5 : Ext w w5 := by subst hW10; exact qXt
 replace b10 := Kw5.cell (by omega) b10
 replace b11 := Kw5.cell (by omega) b11
 replace b20 := Kw5.cell (by omega) b20
 replace b21 := Kw5.cell (by omega) b21
 replace b22 := Kw5.cell (by omega) b22
 replace b30 := Kw5.cell (by omega) b30
 replace f_b30 := Kw5.frzO (by omega) z_b3 f_b30
 replace b31 := Kw5.cell (by omega) b31
 replace f_b31 := Kw5.frzO (by omega) z_b3 f_b31
 replace b90 : w5.cell? ⟨w1.heap.size, 0, none⟩ = some (.slice afb5 cells.length cfb5) := by subst hW10; go_simp
 replace f_b90 : w5.frozen? ⟨w1.heap.size, 0, none⟩ = false := by subst hW10; first | (simp only [World.frozen?_setCell]; with_reducible assumption) | go_simp
 replace b91 : w5.cell? ⟨w1.heap.size, 1, none⟩ = some (.slice pa14 (es.length + 1) pc15) := by subst hW10; go_simp
 replace f_b91 : w5.frozen? ⟨w1.heap.size, 1, none⟩ = false := by subst hW10; first | (simp only [World.frozen?_setCell]; with_reducible assumption) | go_simp
 replace bf4 := bf4.chg Kw5 (by omega)
 clear Kw5
 have z_b1 : w.heap.size < w5.heap.size := qB b10
 have z_b2 : w.heap.size + 1 < w5.heap.size := qB b20
 have z_b3 : w.heap.size + 1 + 1 < w5.heap.size := qB b30
 have z_b9 : w1.heap.size < w5.heap.size := qB b90
 have s_w5 : w.heap.size ≤ w5.heap.size := Xw5.size
 clear hW10
 go_wp2_with fail
 generalize hW11 : ((w5.setCell ⟨w.heap.size + 1 + 1, 0, none⟩ (.slice afb5 cells.length cfb5)).setCell ⟨w.heap.size + 1 + 1, 1, none⟩ (.slice pa14 (es.length + 1) pc15)) = w6 at *
 have Kw6 : Chg (w.heap.size + 1 + 1) (w.heap.size + 1 + 1 + 1) w5 w6 := by subst hW11; exact qCh
 have Xw6 : Ext w w6 := by subst hW11; exact qXt
 replace b10 := Kw6.cell (by omega) b10
 replace b11 := Kw6.cell (by omega) b11
 replace b20 := Kw6.cell (by omega) b20
 replace b21 := Kw6.cell (by omega) b21
 replace b22 := Kw6.cell (by omega) b22
 replace b30 : w6.cell? ⟨w.heap.size + 1 + 1, 0, none⟩ = some (.slice afb5 cells.length cfb5) := by subst hW11; go_simp
 replace f_b30 : w6.frozen? ⟨w.heap.size + 1 + 1, 0, none⟩ = false := by subst hW11; first | (simp only [World.frozen?_setCell]; with_reducible assumption) | go_simp
 replace b31 : w6.cell? ⟨w.heap.size + 1 + 1, 1, none⟩ = some (.slice pa14 (es.length + 1) pc15) := by subst hW11; go_simp
 replace f_b31 : w6.frozen? ⟨w.heap.size + 1 + 1, 1, none⟩ = false := by subst hW11; first | (simp only [World.frozen?_setCell]; with_reducible assumption) | go_simp
 replace b90 := Kw6.cell (by omega) b90
 replace f_b90 := Kw6.frzO (by omega) z_b9 f_b90
 replace b91 := Kw6.cell (by omega) b91
 replace f_b91 := Kw6.frzO (by omega) z_b9 f_b91
 replace bf4 := bf4.chg Kw6 (by omega)
 clear Kw6
 have z_b1 : w.heap.size < w6.heap.size := qB b10
 have z_b2 : w.heap.size + 1 < w6.heap.size := qB b20
 have z_b3 : w.heap.size + 1 + 1 < w6.heap.size := qB b30
 have z_b9 : w1.heap.size < w6.heap.size := qB b90
 have s_w6 : w.heap.size ≤ w6.heap.size := Xw6.size
 clear hW11
 refine bodyPost_ret (v := .agg #[.slice afb5 cells.length cfb5, .slice pa14 (es.length + 1) pc15]) (by simp only [results, Try.results90]; go_simp) rfl ?_
 exact ⟨_, _, _, rfl, ((bf4.buf.ext qXt).lower (by omega)), (Xw6.trans qXt)⟩

set_option maxHeartbeats 3200000 in
theorem specExportView_c (cells : List Int) (es : List Exp) (cv ev : Value) (b1 : Int) (u1 v1 : Value) (s1 t1 : List Int) (w : World) (l1 l2 : Nat) (h1 : Ints w l1 cv cells) (h2 : Exps w l2 ev es) (l3 l4 : Nat) (k1 : Ints w l3 u1 s1) (k2 : Ints w l4 v1 t1) :
  Calls Try.prog 86 #[.agg #[cv, ev], .agg #[.int .i64 b1, u1, v1]] w (PBX w (expA cells es b1 s1 t1)) := by
 obtain ⟨p0, c0, rfl⟩ := h1.form
 obtain ⟨p1, c1, rfl⟩ := h2.form
 have he1 := h2.len
 have hc1 := h1.len
 obtain ⟨p2, c2, rfl⟩ := k1.form
 obtain ⟨p3, c3, rfl⟩ := k2.form
 have hk1 := k1.len
 have hk2 := k2.len
 go_enter Try.func86, Try.ntmps86
 go_wp2_with fail
 refine (validBuffer_c cells es (.slice p0 cells.length c0) (.slice p1 es.length c1) _ _ _ (h1.ext qXt) (h2.ext qXt)).mono ?_
 rintro e w1 ⟨rfl, xw1⟩
 have Lw1 : Ext w w1 := Ext.trans qXt xw1
 have Xw1 : Ext w w1 := Lw1
 have b10 : w1.cell? ⟨w.heap.size, 0, none⟩ = some (.slice p0 cells.length c0) := xw1.cell qCl
 have b11 : w1.cell? ⟨w.heap.size, 1, none⟩ = some (.slice p1 es.length c1) := xw1.cell qCl
 have b20 : w1.cell? ⟨w.heap.size + 1, 0, none⟩ = some (.int .i64 b1) := xw1.cell qCl
 have b21 : w1.cell? ⟨w.heap.size + 1, 1, none⟩ = some (.slice p2 s1.length c2) := xw1.cell qCl
 have b22 : w1.cell? ⟨w.heap.size + 1, 2, none⟩ = some (.slice p3 t1.length c3) := xw1.cell qCl
 have b30 : w1.cell? ⟨w.heap.size + 1 + 1, 0, none⟩ = some (.slice none 0 0) := xw1.cell qCl
 have b31 : w1.cell? ⟨w.heap.size + 1 + 1, 1, none⟩ = some (.slice none 0 0) := xw1.cell qCl
 have f_b30 : w1.frozen? ⟨w.heap.size + 1 + 1, 0, none⟩ = false := xw1.frz (by simp <;> omega) qFz
 have f_b31 : w1.frozen? ⟨w.heap.size + 1 + 1, 1, none⟩ = false := xw1.frz (by simp <;> omega) qFz
 have z_b1 : w.heap.size < w1.heap.size := qB b10
 have z_b2 : w.heap.size + 1 < w1.heap.size := qB b20
 have z_b3 : w.heap.size + 1 + 1 < w1.heap.size := qB b30
 have s_w1 : w.heap.size ≤ w1.heap.size := Xw1.size
 clear xw1
 cases hB4 : bufB cells es
 ·
  replace hB4 := Lib.hid hB4
  go_wp2_with fail
  generalize hW12 : ((w1.setCell ⟨w.heap.size + 1 + 1, 0, none⟩ (.slice none 0 0)).setCell ⟨w.heap.size + 1 + 1, 1, none⟩ (.slice none 0 0)) = w2 at *
  have Kw2 : Chg (w.heap.size + 1 + 1) (w.heap.size + 1 + 1 + 1) w1 w2 := by subst hW12; exact qCh
  have Xw2 : Ext w w2 := by subst hW12; exact qXt
  replace b10 := Kw2.cell (by omega) b10
  replace b11 := Kw2.cell (by omega) b11
  replace b20 := Kw2.cell (by omega) b20
  replace b21 := Kw2.cell (by omega) b21
  replace b22 := Kw2.cell (by omega) b22
  replace b30 : w2.cell? ⟨w.heap.size + 1 + 1, 0, none⟩ = some (.slice none 0 0) := by subst hW12; go_simp
  replace f_b30 : w2.frozen? ⟨w.heap.size + 1 + 1, 0, none⟩ = false := by subst hW12; first | (simp only [World.frozen?_setCell]; with_reducible assumption) | go_simp
  replace b31 : w2.cell? ⟨w.heap.size + 1 + 1, 1, none⟩ = some (.slice none 0 0) := by subst hW12; go_simp
  replace f_b31 : w2.frozen? ⟨w.heap.size + 1 + 1, 1, none⟩ = false := by subst hW12; first | (simp only [World.frozen?_setCell]; with_reducible assumption) | go_simp
  clear Kw2
  have z_b1 : w.heap.size < w2.heap.size := qB b10
  have z_b2 : w.heap.size + 1 < w2.heap.size := qB b20
  have z_b3 : w.heap.size + 1 + 1 < w2.heap.size := qB b30
  have s_w2 : w.heap.size ≤ w2.heap.size := Xw2.size
  clear hW12
  refine bodyPost_ret (v := .tuple #[.agg #[.slice none 0 0, .slice none 0 0], .bool false]) (by simp only [results, Try.results86]; go_simp) rfl ?_
  exact PBX.no (by unfold expA; rw [hB4.out]; rfl) (Xw2.trans qXt)
 ·
  replace hB4 := Lib.hid hB4
  have h88 := (bufB_in hB4.out).2.2.1
  go_wp2_with fail
  refine (validView_c b1 (.slice p2 s1.length c2) (.slice p3 t1.length c3) s1 t1 _ _ _ (k1.ext (Xw1.trans qXt)) (k2.ext (Xw1.trans qXt))).mono ?_
  rintro e w2 ⟨rfl, xw2⟩
  have Lw2 : Ext w1 w2 := Ext.trans qXt xw2
  have Xw2 : Ext w w2 := Xw1.trans Lw2
  replace b10 := Lw2.cell b10
  replace b11 := Lw2.cell b11
  replace b20 := Lw2.cell b20
  replace b21 := Lw2.cell b21
  replace b22 := Lw2.cell b22
  replace b30 := Lw2.cell b30
  replace b31 := Lw2.cell b31
  replace f_b30 := Lw2.frz z_b3 f_b30
  replace f_b31 := Lw2.frz z_b3 f_b31
  have z_b1 : w.heap.size < w2.heap.size := qB b10
  have z_b2 : w.heap.size + 1 < w2.heap.size := qB b20
  have z_b3 : w.heap.size + 1 + 1 < w2.heap.size := qB b30
  have s_w2 : w.heap.size ≤ w2.heap.size := Xw2.size
  clear xw2
  cases hB5 : viewB b1 s1 t1
  ·
   replace hB5 := Lib.hid hB5
   go_wp2_with fail
   generalize hW13 : ((w2.setCell ⟨w.heap.size + 1 + 1, 0, none⟩ (.slice none 0 0)).setCell ⟨w.heap.size + 1 + 1, 1, none⟩ (.slice none 0 0)) = w3 at *
   have Kw3 : Chg (w.heap.size + 1 + 1) (w.heap.size + 1 + 1 + 1) w2 w3 := by subst hW13; exact qCh
   have Xw3 : Ext w w3 := by subst hW13; exact qXt
   replace b10 := Kw3.cell (by omega) b10
   replace b11 := Kw3.cell (by omega) b11
   replace b20 := Kw3.cell (by omega) b20
   replace b21 := Kw3.cell (by omega) b21
   replace b22 := Kw3.cell (by omega) b22
   replace b30 : w3.cell? ⟨w.heap.size + 1 + 1, 0, none⟩ = some (.slice none 0 0) := by subst hW13; go_simp
   replace f_b30 : w3.frozen? ⟨w.heap.size + 1 + 1, 0, none⟩ = false := by subst hW13; first | (simp only [World.frozen?_setCell]; with_reducible assumption) | go_simp
   replace b31 : w3.cell? ⟨w.heap.size + 1 + 1, 1, none⟩ = some (.slice none 0 0) := by subst hW13; go_simp
   replace f_b31 : w3.frozen? ⟨w.heap.size + 1 + 1, 1, none⟩ = false := by subst hW13; first | (simp only [World.frozen?_setCell]; with_reducible assumption) | go_simp
   clear Kw3
   have z_b1 : w.heap.size < w3.heap.size := qB b10
   have z_b2 : w.heap.size + 1 < w3.heap.size := qB b20
   have z_b3 : w.heap.size + 1 + 1 < w3.heap.size := qB b30
   have s_w3 : w.heap.size ≤ w3.heap.size := Xw3.size
   clear hW13
   refine bodyPost_ret (v := .tuple #[.agg #[.slice none 0 0, .slice none 0 0], .bool false]) (by simp only [results, Try.results86]; go_simp) rfl ?_
   exact PBX.no (by unfold expA; rw [hB4.out, hB5.out]; rfl) (Xw3.trans qXt)
  ·
   replace hB5 := Lib.hid hB5
   go_wp2_with fail
   refine (fits_c b1 (.slice p2 s1.length c2) (.slice p3 t1.length c3) s1 t1 (cells.length : Int) _ _ _ (k1.ext (Xw2.trans qXt)) (k2.ext (Xw2.trans qXt)) hB5.out (by first | omega | exact (vw hB5.out).1 | exact (vw hB5.out).2.1 | exact (vw hB5.out).2.2.1 | exact (vw hB5.out).2.2.2) (by first | omega | exact (vw hB5.out).1 | exact (vw hB5.out).2.1 | exact (vw hB5.out).2.2.1 | exact (vw hB5.out).2.2.2)).mono ?_
   rintro e w3 ⟨rfl, xw3⟩
   have Lw3 : Ext w2 w3 := Ext.trans qXt xw3
   have Xw3 : Ext w w3 := Xw2.trans Lw3
   replace b10 := Lw3.cell b10
   replace b11 := Lw3.cell b11
   replace b20 := Lw3.cell b20
   replace b21 := Lw3.cell b21
   replace b22 := Lw3.cell b22
   replace b30 := Lw3.cell b30
   replace b31 := Lw3.cell b31
   replace f_b30 := Lw3.frz z_b3 f_b30
   replace f_b31 := Lw3.frz z_b3 f_b31
   have z_b1 : w.heap.size < w3.heap.size := qB b10
   have z_b2 : w.heap.size + 1 < w3.heap.size := qB b20
   have z_b3 : w.heap.size + 1 + 1 < w3.heap.size := qB b30
   have s_w3 : w.heap.size ≤ w3.heap.size := Xw3.size
   clear xw3
   cases hB6 : fitB b1 s1 t1 (cells.length : Int)
   ·
    replace hB6 := Lib.hid hB6
    go_wp2_with fail
    generalize hW14 : ((w3.setCell ⟨w.heap.size + 1 + 1, 0, none⟩ (.slice none 0 0)).setCell ⟨w.heap.size + 1 + 1, 1, none⟩ (.slice none 0 0)) = w4 at *
    have Kw4 : Chg (w.heap.size + 1 + 1) (w.heap.size + 1 + 1 + 1) w3 w4 := by subst hW14; exact qCh
    have Xw4 : Ext w w4 := by subst hW14; exact qXt
    replace b10 := Kw4.cell (by omega) b10
    replace b11 := Kw4.cell (by omega) b11
    replace b20 := Kw4.cell (by omega) b20
    replace b21 := Kw4.cell (by omega) b21
    replace b22 := Kw4.cell (by omega) b22
    replace b30 : w4.cell? ⟨w.heap.size + 1 + 1, 0, none⟩ = some (.slice none 0 0) := by subst hW14; go_simp
    replace f_b30 : w4.frozen? ⟨w.heap.size + 1 + 1, 0, none⟩ = false := by subst hW14; first | (simp only [World.frozen?_setCell]; with_reducible assumption) | go_simp
    replace b31 : w4.cell? ⟨w.heap.size + 1 + 1, 1, none⟩ = some (.slice none 0 0) := by subst hW14; go_simp
    replace f_b31 : w4.frozen? ⟨w.heap.size + 1 + 1, 1, none⟩ = false := by subst hW14; first | (simp only [World.frozen?_setCell]; with_reducible assumption) | go_simp
    clear Kw4
    have z_b1 : w.heap.size < w4.heap.size := qB b10
    have z_b2 : w.heap.size + 1 < w4.heap.size := qB b20
    have z_b3 : w.heap.size + 1 + 1 < w4.heap.size := qB b30
    have s_w4 : w.heap.size ≤ w4.heap.size := Xw4.size
    clear hW14
    refine bodyPost_ret (v := .tuple #[.agg #[.slice none 0 0, .slice none 0 0], .bool false]) (by simp only [results, Try.results86]; go_simp) rfl ?_
    exact PBX.no (by unfold expA; rw [hB4.out, hB5.out, hB6.out]; rfl) (Xw4.trans qXt)
   ·
    replace hB6 := Lib.hid hB6
    by_cases hc7 : (es.length : Int) = (8 : Int)
    ·
     have hc7e : ((es.length : Int) == (8 : Int)) = true := by simpa using hc7
     have hc7n : ((es.length : Int) != (8 : Int)) = false := by simpa using hc7
     replace hc7 := Lib.hid hc7
     go_wp2_with fail
     generalize hW15 : ((w3.setCell ⟨w.heap.size + 1 + 1, 0, none⟩ (.slice none 0 0)).setCell ⟨w.heap.size + 1 + 1, 1, none⟩ (.slice none 0 0)) = w4 at *
     have Kw4 : Chg (w.heap.size + 1 + 1) (w.heap.size + 1 + 1 + 1) w3 w4 := by subst hW15; exact qCh
     have Xw4 : Ext w w4 := by subst hW15; exact qXt
     replace b10 := Kw4.cell (by omega) b10
     replace b11 := Kw4.cell (by omega) b11
     replace b20 := Kw4.cell (by omega) b20
     replace b21 := Kw4.cell (by omega) b21
     replace b22 := Kw4.cell (by omega) b22
     replace b30 : w4.cell? ⟨w.heap.size + 1 + 1, 0, none⟩ = some (.slice none 0 0) := by subst hW15; go_simp
     replace f_b30 : w4.frozen? ⟨w.heap.size + 1 + 1, 0, none⟩ = false := by subst hW15; first | (simp only [World.frozen?_setCell]; with_reducible assumption) | go_simp
     replace b31 : w4.cell? ⟨w.heap.size + 1 + 1, 1, none⟩ = some (.slice none 0 0) := by subst hW15; go_simp
     replace f_b31 : w4.frozen? ⟨w.heap.size + 1 + 1, 1, none⟩ = false := by subst hW15; first | (simp only [World.frozen?_setCell]; with_reducible assumption) | go_simp
     clear Kw4
     have z_b1 : w.heap.size < w4.heap.size := qB b10
     have z_b2 : w.heap.size + 1 < w4.heap.size := qB b20
     have z_b3 : w.heap.size + 1 + 1 < w4.heap.size := qB b30
     have s_w4 : w.heap.size ≤ w4.heap.size := Xw4.size
     clear hW15
     refine bodyPost_ret (v := .tuple #[.agg #[.slice none 0 0, .slice none 0 0], .bool false]) (by simp only [results, Try.results86]; go_simp) rfl ?_
     exact PBX.no (by unfold expA; rw [hB4.out, hB5.out, hB6.out, decide_eq_false (show ¬ es.length < 8 by have h7 := hc7.out; omega)]; rfl) (Xw4.trans qXt)
    ·
     have hc7e : ((es.length : Int) == (8 : Int)) = false := by simpa using hc7
     have hc7n : ((es.length : Int) != (8 : Int)) = true := by simpa using hc7
     replace hc7 := Lib.hid hc7
     go_wp2_with fail
     have Q11_b10 := Lib.hid b10
     have Q11_b11 := Lib.hid b11
     have Q11_zb1 := z_b1
     have Q11_b20 := Lib.hid b20
     have Q11_b21 := Lib.hid b21
     have Q11_b22 := Lib.hid b22
     have Q11_zb2 := z_b2
     have Q11_b30 := Lib.hid b30
     have Q11_f_b30 := Lib.hid f_b30
     have Q11_b31 := Lib.hid b31
     have Q11_f_b31 := Lib.hid f_b31
     have Q11_zb3 := z_b3
     have BL12 : Ext w3 w3 := Ext.refl _
     refine (added_c cells es (.slice p0 cells.length c0) (.slice p1 es.length c1) (-1) b1 (.slice p2 s1.length c2) (.slice p3 t1.length c3) s1 t1 _ _ _ (h1.ext (Xw3.trans qXt)) (h2.ext (Xw3.trans qXt)) _ _ (k1.ext (Xw3.trans qXt)) (k2.ext (Xw3.trans qXt)) (by have h7 := hc7.out; omega)).mono ?_
     rintro e w4 ⟨cvfb9, evfb9, R10, rfl, bf8, xw4⟩
     have Lw4 : Ext w3 w4 := Ext.trans qXt xw4
     have Xw4 : Ext w w4 := Xw3.trans Lw4
     replace b10 := Lw4.cell b10
     replace b11 := Lw4.cell b11
     replace b20 := Lw4.cell b20
     replace b21 := Lw4.cell b21
     replace b22 := Lw4.cell b22
     replace b30 := Lw4.cell b30
     replace b31 := Lw4.cell b31
     replace f_b30 := Lw4.frz z_b3 f_b30
     replace f_b31 := Lw4.frz z_b3 f_b31
     have z_b1 : w.heap.size < w4.heap.size := qB b10
     have z_b2 : w.heap.size + 1 < w4.heap.size := qB b20
     have z_b3 : w.heap.size + 1 + 1 < w4.heap.size := qB b30
     have s_w4 : w.heap.size ≤ w4.heap.size := Xw4.size
     have BL12_w4 : Ext w3 w4 := BL12.trans Lw4
     clear xw4
     replace bf8 := bf8.lower (lo' := w3.heap.size) qSo
     obtain ⟨afb9, cfb9, rfl⟩ := bf8.ints.form
     obtain ⟨efb9, dfb9, hEfb9⟩ := bf8.exps.form
     rw [List.length_append, List.length_singleton] at hEfb9
     subst hEfb9
     have q_bf8 := Lib.hid bf8.at
     go_wp2_with fail
     generalize hW16 : ((w4.setCell ⟨w.heap.size + 1 + 1, 0, none⟩ (.slice afb9 cells.length cfb9)).setCell ⟨w.heap.size + 1 + 1, 1, none⟩ (.slice efb9 (es.length + 1) dfb9)) = w5 at *
     have Kw5 : Chg (w.heap.size + 1 + 1) (w.heap.size + 1 + 1 + 1) w4 w5 := by subst hW16; exact qCh
     have Xw5 : Ext w w5 := by subst hW16; exact qXt
     replace b10 := Kw5.cell (by omega) b10
     replace b11 := Kw5.cell (by omega) b11
     replace b20 := Kw5.cell (by omega) b20
     replace b21 := Kw5.cell (by omega) b21
     replace b22 := Kw5.cell (by omega) b22
     replace b30 : w5.cell? ⟨w.heap.size + 1 + 1, 0, none⟩ = some (.slice afb9 cells.length cfb9) := by subst hW16; go_simp
     replace f_b30 : w5.frozen? ⟨w.heap.size + 1 + 1, 0, none⟩ = false := by subst hW16; first | (simp only [World.frozen?_setCell]; with_reducible assumption) | go_simp
     replace b31 : w5.cell? ⟨w.heap.size + 1 + 1, 1, none⟩ = some (.slice efb9 (es.length + 1) dfb9) := by subst hW16; go_simp
     replace f_b31 : w5.frozen? ⟨w.heap.size + 1 + 1, 1, none⟩ = false := by subst hW16; first | (simp only [World.frozen?_setCell]; with_reducible assumption) | go_simp
     replace bf8 := bf8.chg Kw5 (by omega)
     clear Kw5
     have z_b1 : w.heap.size < w5.heap.size := qB b10
     have z_b2 : w.heap.size + 1 < w5.heap.size := qB b20
     have z_b3 : w.heap.size + 1 + 1 < w5.heap.size := qB b30
     have s_w5 : w.heap.size ≤ w5.heap.size := Xw5.size
     clear hW16
     refine bodyPost_ret (v := .tuple #[.agg #[.slice afb9 cells.length cfb9, .slice efb9 (es.length + 1) dfb9], .bool true]) (by simp only [results, Try.results86]; go_simp) rfl ?_
     exact PBX.yes (by unfold expA; rw [hB4.out, hB5.out, hB6.out, decide_eq_true (show es.length < 8 by have h7 := hc7.out; omega)]; rfl) ((bf8.ext qXt).lower (by omega)) (Xw5.trans qXt)


end Go.Proofs.Ytgklaobfikbiiaa

/- Walks: slices of the program. -/
namespace Go.Proofs.Ytgklaobfikbiiaa
open Go.RowKit
set_option linter.unusedVariables false
set_option maxRecDepth 100000

end Go.Proofs.Ytgklaobfikbiiaa

/- Walks: slices.Delete of one number of a row of one's own. -/
namespace Go.Proofs.Ytgklaobfikbiiaa
open Go.RowKit
set_option linter.unusedVariables false
set_option maxRecDepth 100000

def delL (xs : List Int) (i : Nat) : List Int := xs.take i ++ xs.drop (i + 1)
theorem delL_len (xs : List Int) (i : Nat) (h : i < xs.length) : (delL xs i).length = xs.length - 1 := by unfold delL; simp; omega
theorem setCells_chg (g : Nat) : ∀ (vs : List Value) (o : Nat) (w : World), Chg g (g + 1) w (w.setCells g o vs)
  | [], _, w => Chg.refl _ _ _
  | v :: r, o, w => by
    have h1 : Chg g (g + 1) w (w.setCell ⟨g, o, none⟩ v) := Chg.setCell (p := ⟨g, o, none⟩) (Chg.refl g (g + 1) _) (Nat.le_refl _) (Nat.lt_succ_self _) v
    exact h1.trans (setCells_chg g r (o + 1) _)
theorem setCells_frz (g : Nat) : ∀ (vs : List Value) (o : Nat) (w : World) (a : Addr), (w.setCells g o vs).frozen? a = w.frozen? a
  | [], _, _, _ => rfl
  | v :: r, o, w, a => by
    rw [World.setCells, setCells_frz g r (o + 1) _ a]
    first | (simp; done) | go_simp
theorem Ints.chgN {w w' : World} {lo l h g o n c : Nat} {xs : List Int} (I : Ints w lo (.slice (some ⟨g, o, none⟩) n c) xs) (k : Chg l h w w') (hg : g < l ∨ h ≤ g) : Ints w' lo (.slice (some ⟨g, o, none⟩) n c) xs := by
  obtain ⟨a', c', e, h1, h2, h3, h4⟩ := I
  cases e
  refine ⟨_, _, rfl, h1, h2, h3, fun i hi => ?_⟩
  obtain ⟨b, of, ha, hb, hc, hf⟩ := h4 i hi
  cases ha
  exact ⟨_, _, rfl, hb, k.cell hg hc, k.frzO hg (qB hc) hf⟩
/-- a call hands back a view -/
def PVW (w : World) (b : Int) (s t : List Int) (e : Ending) (w' : World) : Prop := ∃ u v, e = .returned (.agg #[.int .i64 b, u, v]) ∧ Ints w' w.heap.size u s ∧ Ints w' w.heap.size v t ∧ Ext w w'
/-- a call hands back a view and whether there is one -/
def PVWB (w : World) (b : Int) (s t : List Int) (ok : Bool) (e : Ending) (w' : World) : Prop := ∃ u v, e = .returned (.tuple #[.agg #[.int .i64 b, u, v], .bool ok]) ∧ Ints w' w.heap.size u s ∧ Ints w' w.heap.size v t ∧ Ext w w'
theorem PVWB.no {w w' : World} (h : Ext w w') : PVWB w 0 [] [] false (.returned (.tuple #[.agg #[.int .i64 0, .slice none 0 0, .slice none 0 0], .bool false])) w' :=
  ⟨_, _, rfl, Ints.nil _ _ _ _ (by simp) (fun _ => rfl), Ints.nil _ _ _ _ (by simp) (fun _ => rfl), h⟩
theorem PViewB.weak {w w' : World} {b : Int} {s t : List Int} {ok : Bool} {e : Ending} (h : PViewB w b s t ok e w') : PVWB w b s t ok e w' := by
  obtain ⟨u, v, h1, h2, h3, -, -, -, h4⟩ := h
  exact ⟨u, v, h1, h2, h3, h4⟩
end Go.Proofs.Ytgklaobfikbiiaa

/- Walks: views without a dimension, of the program. -/
namespace Go.Proofs.Ytgklaobfikbiiaa
open Go.RowKit
set_option linter.unusedVariables false
set_option maxRecDepth 100000

end Go.Proofs.Ytgklaobfikbiiaa

/- Plain laws: views with their dimensions in another order. -/
namespace Go.Proofs.Ytgklaobfikbiiaa
open Go.RowKit
set_option linter.unusedVariables false
set_option maxRecDepth 100000

theorem perm_of_sub {α : Type} [BEq α] [LawfulBEq α] : ∀ (l m : List α), l.Nodup → m.Nodup → (∀ x ∈ l, x ∈ m) → l.length = m.length → l.Perm m
  | [], m, _, _, _, h => by cases m <;> simp_all
  | a :: l, m, hl, hm, hs, h => by
    have ha : a ∈ m := hs a (by simp)
    have p := List.perm_cons_erase ha
    refine List.Perm.trans ?_ p.symm
    refine List.Perm.cons a (perm_of_sub l (m.erase a) (List.nodup_cons.1 hl).2 (hm.erase a) ?_ ?_)
    · intro x hx
      rw [hm.mem_erase_iff]
      exact ⟨fun e => (List.nodup_cons.1 hl).1 (e ▸ hx), hs x (by simp [hx])⟩
    · have := p.length_eq; simp at this h ⊢; omega
theorem orderB_in {ord : List Int} {n : Nat} (h : orderB ord n = true) : ord.length = n ∧ (∀ x ∈ ord, 0 ≤ x ∧ x < n) ∧ ord.Nodup := by
  unfold orderB at h
  simp only [Bool.and_eq_true, decide_eq_true_eq, List.all_eq_true, inB] at h
  obtain ⟨h1, h2, h3⟩ := h
  exact ⟨by omega, fun x hx => by have := h2 x hx; omega, h3⟩
theorem upL_nodup (n : Nat) : (upL n).Nodup := by
  unfold upL
  rw [List.nodup_iff_pairwise_ne, List.pairwise_map]
  exact (List.nodup_range (n := n)).imp fun h e => h (by omega)
theorem upL_len (n : Nat) : (upL n).length = n := by simp [upL]
theorem order_perm {ord : List Int} {n : Nat} (h : orderB ord n = true) : ord.Perm (upL n) := by
  obtain ⟨h1, h2, h3⟩ := orderB_in h
  exact perm_of_sub _ _ h3 (upL_nodup n) (fun x hx => (upL_mem n x).2 (h2 x hx)) (by rw [h1, upL_len])
theorem order_of {ord : List Int} {n : Nat} (h : ord.Perm (upL n)) : orderB ord n = true := by
  unfold orderB
  simp only [Bool.and_eq_true, decide_eq_true_eq, List.all_eq_true, inB]
  refine ⟨by have := h.length_eq; rw [upL_len] at this; omega, fun x hx => by have := (upL_mem n x).1 (h.mem_iff.1 hx); omega, (h.nodup_iff).2 (upL_nodup n)⟩
theorem order_back (n : Nat) : orderB (upL n).reverse n = true := order_of (List.reverse_perm _)
theorem zip_take (s t ord : List Int) : (takL s ord).zip (takL t ord) = ord.map fun i => (s.getD i.toNat 0, t.getD i.toNat 0) := by
  unfold takL; induction ord with
  | nil => rfl
  | cons a o ih => simp only [List.map_cons, List.zip_cons_cons, ih]
theorem zip_up (s t : List Int) (h : t.length = s.length) : ((upL s.length).map fun i => (s.getD i.toNat 0, t.getD i.toNat 0)) = s.zip t := by
  apply List.ext_getElem
  · simp [upL, h]
  · intro i h1 h2
    simp [upL] at h1 ⊢
    simp [h1, h]
theorem take_up (s : List Int) : takL s (upL s.length) = s := by
  apply List.ext_getElem
  · simp [takL, upL]
  · intro i h1 h2
    simp [takL, upL] at h1 ⊢
    simp [h1]
theorem zip_perm {s t ord : List Int} (h : t.length = s.length) (ho : orderB ord s.length = true) : ((takL s ord).zip (takL t ord)).Perm (s.zip t) := by
  rw [zip_take, ← zip_up s t h]
  exact (order_perm ho).map _
theorem take_perm {s ord : List Int} (ho : orderB ord s.length = true) : (takL s ord).Perm s := by
  have := (order_perm ho).map fun i : Int => s.getD i.toNat 0
  exact this.trans (by have := take_up s; unfold takL at this; rw [this])
theorem prodL_perm {a b : List Int} (h : a.Perm b) : prodL a = prodL b := by
  induction h with
  | nil => rfl
  | cons x _ ih => rw [prodL_cons, prodL_cons, ih]
  | swap x y l => simp only [prodL_cons]; rw [← Int.mul_assoc, ← Int.mul_assoc, Int.mul_comm y x]
  | trans _ _ ih1 ih2 => rw [ih1, ih2]
theorem perm_small {s ord : List Int} (hs : Small s) (ho : orderB ord s.length = true) : Small (takL s ord) :=
  ⟨by rw [takL_len, (orderB_in ho).1]; exact hs.1, fun e he => hs.2 e ((take_perm ho).mem_iff.1 he)⟩
theorem perm_count {s ord : List Int} (hs : Small s) (ho : orderB ord s.length = true) : countL (takL s ord) = countL s := by
  rw [hs.count.1, (perm_small hs ho).count.1, prodL_perm (take_perm ho)]
theorem perm_view {b : Int} {s t ord : List Int} (h : viewB b s t = true) (ho : orderB ord s.length = true) :
    viewB b (takL s ord) (takL t ord) = true ∧ (offsL b (takL s ord) (takL t ord)).Perm (offsL b s t) := by
  have hs := view_small h
  obtain ⟨h1, h2, h3, h4, h5⟩ := viewB_in h
  have hc := shapeB_in h1
  have hl : (takL t ord).length = (takL s ord).length := by rw [takL_len, takL_len]
  have ht : (takL t ord).Perm t := take_perm (by rw [h2]; exact ho)
  have ho' : orderB ord t.length = true := by rw [h2]; exact ho
  have hs' := perm_small hs ho
  have hm := view_mild h
  have hm' : Mild b (takL t ord) := ⟨hm.1, fun x hx => hm.2 x (ht.mem_iff.1 hx)⟩
  have hp : (offsL b (takL s ord) (takL t ord)).Perm (offsL b s t) := by
    rw [offs_C hs' hm', offs_C hs hm, offC_P _ _ _ hl, offC_P _ _ _ h2]
    exact offP_perm b (zip_perm h2 ho)
  refine ⟨viewB_mk (shapeB_mk hs' (by rw [perm_count hs ho]; omega)) hl h3 (fun x hx => h4 x (ht.mem_iff.1 hx)) (fun x hx => h5 x (hp.mem_iff.1 hx)), hp⟩

end Go.Proofs.Ytgklaobfikbiiaa
