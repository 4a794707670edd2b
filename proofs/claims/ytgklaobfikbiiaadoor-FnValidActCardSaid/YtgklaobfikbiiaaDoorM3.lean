/- Texts of these proofs put together: BufI, BufK, CpyA, BufL, LvK, LvL, LvN, BufH, BufN, BufM, BufY, BufJ, BufX, SliA, DelA, DelB, PureP, PureS, DelC, PureT, SliB, SliC, SliS, BufZ. No condition. -/
import Derived.Test.YtgklaobfikbiiaaDoorM2
import Derived.Test.YtgklaobfikbiiaaDoorM1
import Derived.Laws.CopyOwn
set_option linter.unusedVariables false
set_option linter.unusedSimpArgs false
/- Words for memory: buffers with one export more, with an export closed, with other cells. No condition. -/
namespace Go.Proofs.YtgklaobfikbiiaaDoor
open Go.RowKit
set_option linter.unusedVariables false
set_option maxRecDepth 100000

theorem chg_row {w w' : World} {o : Obj} {lo hi : Nat} {row : Option Nat} (hg : (w.alloc o).grownBy w' row) (hr : ∀ g, row = some g → lo ≤ g ∧ g < hi) : Chg lo hi w w' :=
  ⟨hg.os, hg.tape, hg.output, by have := hg.size; simp at this; omega, fun k hk hd => by
    have h1 := hg.block k (by simp; omega) (fun h => by have := hr k h.symm; omega)
    rw [h1]
    exact ((Ext.refl w).alloc o).block k hk⟩
section
variable {w w' W : World} {lo lo2 : Nat} {cv ev v' : Value} {cells : List Int} {es : List Exp} {R : Nat → Value} {e : Exp} {u1 u2 : Value}
theorem BufR.appG (h : BufR W lo cv ev cells es R) (hl : lo2 ≤ lo) (hE : ExpR w' lo2 v' (es ++ [e]) (extR R es.length u1 u2)) (hn : es.length + 1 ≤ 1048576)
    (c1 : e.s ≠ [] → cells ≠ [] → u1.ownBlock ≠ cv.ownBlock) (c2 : e.t ≠ [] → cells ≠ [] → u2.ownBlock ≠ cv.ownBlock)
    (hg : W.grownBy w' ev.ownBlock) (hv : v'.ownBlock = ev.ownBlock ∨ v'.ownBlock = some W.heap.size) : BufR w' lo2 cv v' cells (es ++ [e]) (extR R es.length u1 u2) := by
  refine ⟨(h.cel.lower hl).keptG h.cl hg h.offc, hE, h.cl, by simpa using hn, fun hc => ?_, fun p hp hs hc => ?_, h.cz⟩
  · rcases hv with hv | hv
    · rw [hv]; exact h.offc hc
    · obtain ⟨g, hg1, -, hlt⟩ := h.cel.lt hc
      rw [hg1, hv]
      intro h2
      have := Option.some.inj h2
      omega
  · have hpl : p < 2 * es.length ∨ p = 2 * es.length ∨ p = 2 * es.length + 1 := by
      rw [List.length_append, List.length_singleton] at hp; omega
    rcases hpl with hp | rfl | rfl
    · rw [extR_old hp]; rw [rowAt_app hp] at hs; exact h.offr p hp hs hc
    · rw [extR_a]; rw [rowAt_even, expAt_app2] at hs; exact c1 hs hc
    · rw [extR_b]; rw [rowAt_odd, expAt_app2] at hs; exact c2 hs hc
/-- one export more, whose rows came up before the buffer -/
theorem BufR.app (h : BufR W lo cv ev cells es R) (hl : lo2 ≤ lo) (o1 : OwnZ W lo2 u1 e.s) (o2 : OwnZ W lo2 u2 e.t) (l1 : e.s.length ≤ 4194304) (l2 : e.t.length ≤ 4194304)
    (hd : e.s ≠ [] → e.t ≠ [] → u1.ownBlock ≠ u2.ownBlock) (m1 : e.s ≠ [] → ∀ g, u1.ownBlock = some g → g < lo) (m2 : e.t ≠ [] → ∀ g, u2.ownBlock = some g → g < lo) (hn : es.length + 1 ≤ 1048576)
    (h1 : OwnC w' lo TEXPORT 5 v' (cellsE es R ++ [eCells e u1 u2])) (hg : W.grownBy w' ev.ownBlock) (hv : v'.ownBlock = ev.ownBlock ∨ v'.ownBlock = some W.heap.size) :
    BufR w' lo2 cv v' cells (es ++ [e]) (extR R es.length u1 u2) := by
  refine h.appG hl (h.ex.snocB hl o1 o2 l1 l2 hd m1 m2 h1 hg hv) hn ?_ ?_ hg hv
  · intro hs hc h2
    obtain ⟨g, hg1, hb, -⟩ := h.cel.lt hc
    have := m1 hs g (by rw [h2]; exact hg1); omega
  · intro hs hc h2
    obtain ⟨g, hg1, hb, -⟩ := h.cel.lt hc
    have := m2 hs g (by rw [h2]; exact hg1); omega
/-- one export more, whose rows came up later -/
theorem BufR.appL (h0 : BufR w lo cv ev cells es R) (hx : Ext w W) (o1 : OwnZ W lo u1 e.s) (o2 : OwnZ W lo u2 e.t) (l1 : e.s.length ≤ 4194304) (l2 : e.t.length ≤ 4194304)
    (hd : e.s ≠ [] → e.t ≠ [] → u1.ownBlock ≠ u2.ownBlock) (m1 : e.s ≠ [] → ∀ g, u1.ownBlock = some g → w.heap.size ≤ g) (m2 : e.t ≠ [] → ∀ g, u2.ownBlock = some g → w.heap.size ≤ g) (hn : es.length + 1 ≤ 1048576)
    (h1 : OwnC w' lo TEXPORT 5 v' (cellsE es R ++ [eCells e u1 u2])) (hg : W.grownBy w' ev.ownBlock) (hv : v'.ownBlock = ev.ownBlock ∨ v'.ownBlock = some W.heap.size) :
    BufR w' lo cv v' cells (es ++ [e]) (extR R es.length u1 u2) := by
  refine (h0.ext hx).appG (Nat.le_refl _) (h0.ex.snoc hx o1 o2 l1 l2 hd m1 m2 h1 hg hv) hn ?_ ?_ hg hv
  · intro hs hc h2
    obtain ⟨g, hg1, hb, hlt⟩ := h0.cel.lt hc
    have := m1 hs g (by rw [h2]; exact hg1); omega
  · intro hs hc h2
    obtain ⟨g, hg1, hb, hlt⟩ := h0.cel.lt hc
    have := m2 hs g (by rw [h2]; exact hg1); omega
/-- an export is opened or closed -/
theorem BufR.close {a n c : Nat} (h : BufR w lo cv (.slice (some ⟨a, 0, none⟩) n c) cells es R) (hn : n = es.length) (i : Nat) (hi : i < es.length) (o : Bool) :
    BufR (w.setCell ⟨a, i * 5 + 4, none⟩ (.bool o)) lo cv (.slice (some ⟨a, 0, none⟩) n c) cells (es.set i ⟨(expAt es i).par, (expAt es i).b, (expAt es i).s, (expAt es i).t, o⟩) R := by
  refine ⟨h.cel.keptG h.cl (grown_set w a _ _) h.offc, h.ex.markO hn i hi o, h.cl, by simpa using h.el, h.offc, fun p hp hs hc => ?_, h.cz⟩
  rw [List.length_set] at hp
  refine h.offr p hp (fun h2 => hs ?_) hc
  unfold rowAt at h2 ⊢
  by_cases hq : p / 2 = i
  · subst hq; rw [expAt_setS es _ _ hi]; exact h2
  · rw [expAt_set es i _ _ hi, if_neg hq]; exact h2
/-- other cells, that came up before the buffer -/
theorem BufR.cellsB {cv2 : Value} {c2 : List Int} (h : BufR w lo cv ev cells es R) (hl : lo2 ≤ lo) (o : OwnZ w lo2 cv2 c2) (z : CapZ cv2 c2) (hc : c2.length ≤ 4194304) (m : c2 ≠ [] → ∀ g, cv2.ownBlock = some g → g < lo) : BufR w lo2 cv2 ev c2 es R := by
  refine ⟨o, h.ex.lower hl, hc, h.el, fun hn h2 => ?_, fun p hp hs hn h2 => ?_, z⟩
  · obtain ⟨g, hg1, -, -⟩ := o.lt hn
    have := (h.ex.blk g (by rw [← h2]; exact hg1)).1
    have := m hn g hg1
    omega
  · obtain ⟨g, hg1, hb, -⟩ := h.ex.nblk p hp hs
    have := m hn g (by rw [← h2]; exact hg1)
    omega
end
/-- where the rows of a buffer lie -/
structure BufAt (P : Nat → Prop) (cv ev : Value) (cells : List Int) (es : List Exp) (R : Nat → Value) : Prop where
  c : cells ≠ [] → ∀ g, cv.ownBlock = some g → P g
  e : ∀ g, ev.ownBlock = some g → P g
  r : ∀ p, p < 2 * es.length → rowAt es p ≠ [] → ∀ g, (R p).ownBlock = some g → P g
/-- a buffer in rows below m, from lo up to m2, and from lo3 on -/
structure BufS (w : World) (lo2 m lo m2 lo3 : Nat) (cv ev : Value) (cells : List Int) (es : List Exp) (R : Nat → Value) : Prop where
  buf : BufR w lo2 cv ev cells es R
  loc : BufAt (fun g => g < m ∨ (lo ≤ g ∧ g < m2) ∨ lo3 ≤ g) cv ev cells es R
section
variable {w w' W : World} {lo lo2 m m2 lo3 : Nat} {cv ev v' : Value} {cells : List Int} {es : List Exp} {R : Nat → Value} {e : Exp} {u1 u2 : Value}
theorem BufR.at (h : BufR w lo cv ev cells es R) : BufAt (fun g => lo ≤ g ∧ g < w.heap.size) cv ev cells es R :=
  ⟨fun hc g hg => by obtain ⟨g', h1, h2, h3⟩ := h.cel.lt hc; rw [hg] at h1; cases h1; exact ⟨h2, h3⟩, fun g hg => h.ex.blk g hg,
   fun p hp hs g hg => by obtain ⟨g', h1, h2, h3⟩ := h.ex.nblk p hp hs; rw [hg] at h1; cases h1; exact ⟨h2, h3⟩⟩
theorem OwnC.chgO {base E sz l hi : Nat} {v : Value} {L : List (List Value)} (h : OwnC w base E sz v L) (k : Chg l hi w w') (hb : ∀ g, v.ownBlock = some g → g < l ∨ hi ≤ g) : OwnC w' base E sz v L := by
  refine ⟨⟨h.1.1, ?_⟩, h.2⟩
  rcases h.1.2 with h2 | ⟨g, cap, cur, hv, hg, hh, r⟩
  · exact .inl h2
  · exact .inr ⟨g, cap, cur, hv, hg, (k.block g (Array.getElem?_eq_some_iff.1 hh).1 (hb g (by rw [hv]; rfl))).trans hh, r⟩
theorem BufR.chgO {l hi : Nat} {P : Nat → Prop} (h : BufR w lo cv ev cells es R) (q : BufAt P cv ev cells es R) (k : Chg l hi w w') (hP : ∀ g, P g → g < l ∨ hi ≤ g) : BufR w' lo cv ev cells es R :=
  ⟨h.cel.chgI k (fun hn g hg => hP g (q.c hn g hg)), ⟨h.ex.row.chgO k (fun g hg => hP g (q.e g hg)), fun p hp => (h.ex.nest p hp).chgI k (fun hn g hg => hP g (q.r p hp hn g hg)), h.ex.lens, h.ex.apart, h.ex.off⟩, h.cl, h.el, h.offc, h.offr, h.cz⟩
theorem BufS.chg {l hi : Nat} (h : BufS w lo2 m lo m2 lo3 cv ev cells es R) (k : Chg l hi w w') (hb : m ≤ l ∧ (hi ≤ lo ∨ m2 ≤ l) ∧ hi ≤ lo3) : BufS w' lo2 m lo m2 lo3 cv ev cells es R :=
  ⟨h.buf.chgO h.loc k (fun g hg => by rcases hg with hg | hg | hg <;> omega), h.loc⟩
theorem BufS.ext (h : BufS w lo2 m lo m2 lo3 cv ev cells es R) (hx : Ext w w') : BufS w' lo2 m lo m2 lo3 cv ev cells es R := ⟨h.buf.ext hx, h.loc⟩
theorem BufS.ints (h : BufS w lo2 m lo m2 lo3 cv ev cells es R) : Ints w lo2 cv cells := h.buf.ints
theorem BufS.exps (h : BufS w lo2 m lo m2 lo3 cv ev cells es R) : Exps w lo2 ev es := h.buf.exps
theorem BufS.mk' (hS : BufR w' lo2 cv v' cells (es ++ [e]) (extR R es.length u1 u2)) (q : BufAt (fun g => lo ≤ g ∧ g < m2) cv ev cells es R) (c1 : e.s ≠ [] → ∀ g, u1.ownBlock = some g → g < m ∨ lo3 ≤ g) (c2 : e.t ≠ [] → ∀ g, u2.ownBlock = some g → g < m ∨ lo3 ≤ g)
    (hv : v'.ownBlock = ev.ownBlock ∨ v'.ownBlock = some W.heap.size) (hw : lo3 ≤ W.heap.size) : BufS w' lo2 m lo m2 lo3 cv v' cells (es ++ [e]) (extR R es.length u1 u2) := by
  refine ⟨hS, fun hc g hg => .inr (.inl (q.c hc g hg)), fun g hg => ?_, fun p hp hs g hg => ?_⟩
  · rcases hv with hv | hv
    · rw [hv] at hg; exact .inr (.inl (q.e g hg))
    · rw [hv] at hg; cases hg; exact .inr (.inr hw)
  · have hpl : p < 2 * es.length ∨ p = 2 * es.length ∨ p = 2 * es.length + 1 := by
      rw [List.length_append, List.length_singleton] at hp; omega
    rcases hpl with hp | rfl | rfl
    · rw [extR_old hp] at hg; rw [rowAt_app hp] at hs; exact .inr (.inl (q.r p hp hs g hg))
    · rw [extR_a] at hg; rw [rowAt_even, expAt_app2] at hs; rcases c1 hs g hg with h | h; exact .inl h; exact .inr (.inr h)
    · rw [extR_b] at hg; rw [rowAt_odd, expAt_app2] at hs; rcases c2 hs g hg with h | h; exact .inl h; exact .inr (.inr h)
/-- other cells, that came up later than the buffer's rows -/
theorem BufR.cellsQ {cv2 : Value} {c2 : List Int} (h : BufR W lo cv ev cells es R) (hl : lo2 ≤ lo) (q : BufAt (fun g => lo3 ≤ g ∧ g < m2) cv ev cells es R) (o : OwnZ W lo2 cv2 c2) (z : CapZ cv2 c2) (hc : c2.length ≤ 4194304) (m : c2 ≠ [] → ∀ g, cv2.ownBlock = some g → m2 ≤ g) : BufR W lo2 cv2 ev c2 es R := by
  refine ⟨o, h.ex.lower hl, hc, h.el, fun hn h2 => ?_, fun p hp hs hn h2 => ?_, z⟩
  · obtain ⟨g, hg1, -, -⟩ := o.lt hn
    have := (q.e g (by rw [← h2]; exact hg1)).2
    have := m hn g hg1
    omega
  · obtain ⟨g, hg1, -, -⟩ := o.lt hn
    have := (q.r p hp hs g (by rw [h2]; exact hg1)).2
    have := m hn g hg1
    omega
end
/-- a buffer in rows from lo up to m2 -/
structure BufT (w : World) (lo m2 : Nat) (cv ev : Value) (cells : List Int) (es : List Exp) (R : Nat → Value) : Prop where
  buf : BufR w lo cv ev cells es R
  loc : BufAt (fun g => lo ≤ g ∧ g < m2) cv ev cells es R
section
variable {w w' : World} {lo m2 : Nat} {cv ev : Value} {cells : List Int} {es : List Exp} {R : Nat → Value}
theorem BufT.of (h : BufR w lo cv ev cells es R) (q : BufAt (fun g => lo ≤ g ∧ g < m2) cv ev cells es R) : BufT w lo m2 cv ev cells es R := ⟨h, q⟩
theorem BufT.ext (h : BufT w lo m2 cv ev cells es R) (hx : Ext w w') : BufT w' lo m2 cv ev cells es R := ⟨h.buf.ext hx, h.loc⟩
theorem BufT.chg {l hi : Nat} (h : BufT w lo m2 cv ev cells es R) (k : Chg l hi w w') (hb : hi ≤ lo ∨ m2 ≤ l) : BufT w' lo m2 cv ev cells es R := ⟨h.buf.chgO h.loc k (fun g hg => by omega), h.loc⟩
theorem BufT.ints (h : BufT w lo m2 cv ev cells es R) : Ints w lo cv cells := h.buf.ints
theorem BufT.exps (h : BufT w lo m2 cv ev cells es R) : Exps w lo ev es := h.buf.exps
end
end Go.Proofs.YtgklaobfikbiiaaDoor

/- Walks: ReleaseExport of both. -/
namespace Go.Proofs.YtgklaobfikbiiaaDoor
open Go.RowKit
set_option linter.unusedVariables false
set_option maxRecDepth 100000

set_option maxHeartbeats 3200000 in
theorem specReleaseExport_c (cells : List Int) (es : List Exp) (cv ev : Value) (i : Int) (w : World) (l1 l2 : Nat) (h1 : Ints w l1 cv cells) (h2 : Exps w l2 ev es) :
    Calls Tryd.prog 34 #[.agg #[cv, ev], .int .i64 i] w (PBX w (relA cells es i)) := by
  obtain ⟨p0, c0, rfl⟩ := h1.form
  obtain ⟨p1, c1, rfl⟩ := h2.form
  have he1 := h2.len
  have hc1 := h1.len
  go_enter Tryd.func34, Tryd.ntmps34
  go_wp2_with fail
  refine (validBuffer_c cells es (.slice p0 cells.length c0) (.slice p1 es.length c1) _ _ _ (h1.ext qXt) (h2.ext qXt)).mono ?_
  rintro e w1 ⟨rfl, xw1⟩
  have Lw1 : Ext w w1 := Ext.trans qXt xw1
  have Xw1 : Ext w w1 := Lw1
  have b10 : w1.cell? ⟨w.heap.size, 0, none⟩ = some (.slice p0 cells.length c0) := xw1.cell qCl
  have b11 : w1.cell? ⟨w.heap.size, 1, none⟩ = some (.slice p1 es.length c1) := xw1.cell qCl
  have b20 : w1.cell? ⟨w.heap.size + 1, 0, none⟩ = some (.slice none 0 0) := xw1.cell qCl
  have b21 : w1.cell? ⟨w.heap.size + 1, 1, none⟩ = some (.slice none 0 0) := xw1.cell qCl
  have f_b20 : w1.frozen? ⟨w.heap.size + 1, 0, none⟩ = false := xw1.frz (by simp <;> omega) qFz
  have f_b21 : w1.frozen? ⟨w.heap.size + 1, 1, none⟩ = false := xw1.frz (by simp <;> omega) qFz
  have z_b1 : w.heap.size < w1.heap.size := qB b10
  have z_b2 : w.heap.size + 1 < w1.heap.size := qB b20
  have s_w1 : w.heap.size ≤ w1.heap.size := Xw1.size
  clear xw1
  cases hB3 : bufB cells es
  · replace hB3 := Lib.hid hB3
    go_wp2_with fail
    generalize hW6 : ((w1.setCell ⟨w.heap.size + 1, 0, none⟩ (.slice none 0 0)).setCell ⟨w.heap.size + 1, 1, none⟩ (.slice none 0 0)) = w2 at *
    have Kw2 : Chg (w.heap.size + 1) (w.heap.size + 1 + 1) w1 w2 := by subst hW6; exact qCh
    have Xw2 : Ext w w2 := by subst hW6; exact qXt
    replace b10 := Kw2.cell (by omega) b10
    replace b11 := Kw2.cell (by omega) b11
    replace b20 : w2.cell? ⟨w.heap.size + 1, 0, none⟩ = some (.slice none 0 0) := by subst hW6; go_simp
    replace f_b20 : w2.frozen? ⟨w.heap.size + 1, 0, none⟩ = false := by subst hW6; first | (simp only [World.frozen?_setCell]; with_reducible assumption) | go_simp
    replace b21 : w2.cell? ⟨w.heap.size + 1, 1, none⟩ = some (.slice none 0 0) := by subst hW6; go_simp
    replace f_b21 : w2.frozen? ⟨w.heap.size + 1, 1, none⟩ = false := by subst hW6; first | (simp only [World.frozen?_setCell]; with_reducible assumption) | go_simp
    clear Kw2
    have z_b1 : w.heap.size < w2.heap.size := qB b10
    have z_b2 : w.heap.size + 1 < w2.heap.size := qB b20
    have s_w2 : w.heap.size ≤ w2.heap.size := Xw2.size
    clear hW6
    refine bodyPost_ret (v := .tuple #[.agg #[.slice none 0 0, .slice none 0 0], .bool false]) (by simp only [results, Tryd.results34]; go_simp) rfl ?_
    exact PBX.no (by unfold relA; rw [(show (bufB cells es && opB es i) = false by rw [hB3.out]; rfl), Bool.false_and]; rfl) (Xw2.trans qXt)
  · replace hB3 := Lib.hid hB3
    have hbb : Hid (bufB cells es = true) := Lib.hid hB3.out
    go_wp2_with fail
    refine (specIsOpen_c cells es (.slice p0 cells.length c0) (.slice p1 es.length c1) i _ _ _ (h1.ext (Xw1.trans qXt)) (h2.ext (Xw1.trans qXt))).mono ?_
    rintro e w2 ⟨rfl, xw2⟩
    have Lw2 : Ext w1 w2 := Ext.trans qXt xw2
    have Xw2 : Ext w w2 := Xw1.trans Lw2
    replace b10 := Lw2.cell b10
    replace b11 := Lw2.cell b11
    replace b20 := Lw2.cell b20
    replace b21 := Lw2.cell b21
    replace f_b20 := Lw2.frz z_b2 f_b20
    replace f_b21 := Lw2.frz z_b2 f_b21
    have z_b1 : w.heap.size < w2.heap.size := qB b10
    have z_b2 : w.heap.size + 1 < w2.heap.size := qB b20
    have s_w2 : w.heap.size ≤ w2.heap.size := Xw2.size
    clear xw2
    cases hB4 : opB es i
    · replace hB4 := Lib.hid hB4
      go_wp2_with fail
      generalize hW7 : ((w2.setCell ⟨w.heap.size + 1, 0, none⟩ (.slice none 0 0)).setCell ⟨w.heap.size + 1, 1, none⟩ (.slice none 0 0)) = w3 at *
      have Kw3 : Chg (w.heap.size + 1) (w.heap.size + 1 + 1) w2 w3 := by subst hW7; exact qCh
      have Xw3 : Ext w w3 := by subst hW7; exact qXt
      replace b10 := Kw3.cell (by omega) b10
      replace b11 := Kw3.cell (by omega) b11
      replace b20 : w3.cell? ⟨w.heap.size + 1, 0, none⟩ = some (.slice none 0 0) := by subst hW7; go_simp
      replace f_b20 : w3.frozen? ⟨w.heap.size + 1, 0, none⟩ = false := by subst hW7; first | (simp only [World.frozen?_setCell]; with_reducible assumption) | go_simp
      replace b21 : w3.cell? ⟨w.heap.size + 1, 1, none⟩ = some (.slice none 0 0) := by subst hW7; go_simp
      replace f_b21 : w3.frozen? ⟨w.heap.size + 1, 1, none⟩ = false := by subst hW7; first | (simp only [World.frozen?_setCell]; with_reducible assumption) | go_simp
      clear Kw3
      have z_b1 : w.heap.size < w3.heap.size := qB b10
      have z_b2 : w.heap.size + 1 < w3.heap.size := qB b20
      have s_w3 : w.heap.size ≤ w3.heap.size := Xw3.size
      clear hW7
      refine bodyPost_ret (v := .tuple #[.agg #[.slice none 0 0, .slice none 0 0], .bool false]) (by simp only [results, Tryd.results34]; go_simp) rfl ?_
      exact PBX.no (by unfold relA; rw [(show (bufB cells es && opB es i) = false by rw [hB4.out, Bool.and_false]), Bool.false_and]; rfl) (Xw3.trans qXt)
    · replace hB4 := Lib.hid hB4
      have hop : Hid (opB es i = true) := Lib.hid hB4.out
      obtain ⟨hi0, hi1, hi2⟩ := opB_in hop.out
      obtain ⟨k, rfl⟩ : ∃ k : Nat, i = k := ⟨i.toNat, by omega⟩
      have hlt : k < es.length := by omega
      have hesne : Hid (es ≠ []) := Lib.hid (fun h => by rw [h] at hlt; exact absurd hlt (by simp))
      replace hi2 := Lib.hid hi2
      have hka : Hid (kidsA cells es (k : Int) = selL (kidP (k : Int)) es es.length) := Lib.hid (by unfold kidsA; rw [hbb.out, decide_eq_true (show (-1 : Int) ≤ (k : Int) by omega), decide_eq_true (show (k : Int) < (es.length : Int) by omega)]; rfl)
      go_wp2_with fail
      refine (kids_c cells es (.slice p0 cells.length c0) (.slice p1 es.length c1) (k : Int) _ _ _ (h1.ext (Xw2.trans qXt)) (h2.ext (Xw2.trans qXt))).mono ?_
      rintro e w3 ⟨fv5, rfl, i6, -, xw3⟩
      have Lw3 : Ext w2 w3 := Ext.trans qXt xw3
      have Xw3 : Ext w w3 := Xw2.trans Lw3
      replace b10 := Lw3.cell b10
      replace b11 := Lw3.cell b11
      replace b20 := Lw3.cell b20
      replace b21 := Lw3.cell b21
      replace f_b20 := Lw3.frz z_b2 f_b20
      replace f_b21 := Lw3.frz z_b2 f_b21
      have z_b1 : w.heap.size < w3.heap.size := qB b10
      have z_b2 : w.heap.size + 1 < w3.heap.size := qB b20
      have s_w3 : w.heap.size ≤ w3.heap.size := Xw3.size
      clear xw3
      obtain ⟨afv5, cfv5, rfl⟩ := i6.form
      by_cases hc7 : (0 : Int) < ((selL (kidP (k : Int)) es es.length).length : Int)
      · go_wp2_with fail
        generalize hW8 : ((w3.setCell ⟨w.heap.size + 1, 0, none⟩ (.slice none 0 0)).setCell ⟨w.heap.size + 1, 1, none⟩ (.slice none 0 0)) = w4 at *
        have Kw4 : Chg (w.heap.size + 1) (w.heap.size + 1 + 1) w3 w4 := by subst hW8; exact qCh
        have Xw4 : Ext w w4 := by subst hW8; exact qXt
        replace b10 := Kw4.cell (by omega) b10
        replace b11 := Kw4.cell (by omega) b11
        replace b20 : w4.cell? ⟨w.heap.size + 1, 0, none⟩ = some (.slice none 0 0) := by subst hW8; go_simp
        replace f_b20 : w4.frozen? ⟨w.heap.size + 1, 0, none⟩ = false := by subst hW8; first | (simp only [World.frozen?_setCell]; with_reducible assumption) | go_simp
        replace b21 : w4.cell? ⟨w.heap.size + 1, 1, none⟩ = some (.slice none 0 0) := by subst hW8; go_simp
        replace f_b21 : w4.frozen? ⟨w.heap.size + 1, 1, none⟩ = false := by subst hW8; first | (simp only [World.frozen?_setCell]; with_reducible assumption) | go_simp
        replace i6 := i6.chg Kw4 (by omega)
        clear Kw4
        have z_b1 : w.heap.size < w4.heap.size := qB b10
        have z_b2 : w.heap.size + 1 < w4.heap.size := qB b20
        have s_w4 : w.heap.size ≤ w4.heap.size := Xw4.size
        clear hW8
        refine bodyPost_ret (v := .tuple #[.agg #[.slice none 0 0, .slice none 0 0], .bool false]) (by simp only [results, Tryd.results34]; go_simp) rfl ?_
        exact PBX.no (by unfold relA; rw [decide_eq_false (show ¬ (selL (kidP (k : Int)) es es.length).length = 0 by omega), Bool.and_false]; rfl) (Xw4.trans qXt)
      · go_wp2_with fail
        have Q11_b10 := Lib.hid b10
        have Q11_b11 := Lib.hid b11
        have Q11_zb1 := z_b1
        have Q11_b20 := Lib.hid b20
        have Q11_f_b20 := Lib.hid f_b20
        have Q11_b21 := Lib.hid b21
        have Q11_f_b21 := Lib.hid f_b21
        have Q11_zb2 := z_b2
        have Q11_i6 := Lib.hid i6
        have BL12 : Ext w3 w3 := Ext.refl _
        refine (specCopyBuffer_c cells es (.slice p0 cells.length c0) (.slice p1 es.length c1) _ _ _ (h1.ext (Xw3.trans qXt)) (h2.ext (Xw3.trans qXt))).mono ?_
        rintro e w4 ⟨cvfb9, evfb9, R10, rfl, bf8, xw4⟩
        have Lw4 : Ext w3 w4 := Ext.trans qXt xw4
        have Xw4 : Ext w w4 := Xw3.trans Lw4
        replace b10 := Lw4.cell b10
        replace b11 := Lw4.cell b11
        replace b20 := Lw4.cell b20
        replace b21 := Lw4.cell b21
        replace f_b20 := Lw4.frz z_b2 f_b20
        replace f_b21 := Lw4.frz z_b2 f_b21
        have z_b1 : w.heap.size < w4.heap.size := qB b10
        have z_b2 : w.heap.size + 1 < w4.heap.size := qB b20
        replace i6 := i6.ext Lw4
        have s_w4 : w.heap.size ≤ w4.heap.size := Xw4.size
        have BL12_w4 : Ext w3 w4 := BL12.trans Lw4
        clear xw4
        replace bf8 := bf8.lower (lo' := w3.heap.size) qSo
        obtain ⟨afb9, cfb9, rfl⟩ := bf8.ints.form
        obtain ⟨efb9, dfb9, rfl⟩ := bf8.exps.form
        have q_bf8 := Lib.hid bf8.at
        go_wp2_with fail
        generalize hW9 : w4.alloc (.cells #[.slice afb9 cells.length cfb9, .slice efb9 es.length dfb9] 34) = w5 at *
        have Lw5 : Ext w4 w5 := by subst hW9; exact qXt
        have Xw5 : Ext w w5 := Xw4.trans Lw5
        replace b10 := Lw5.cell b10
        replace b11 := Lw5.cell b11
        replace b20 := Lw5.cell b20
        replace b21 := Lw5.cell b21
        replace f_b20 := Lw5.frz z_b2 f_b20
        replace f_b21 := Lw5.frz z_b2 f_b21
        have b130 : w5.cell? ⟨w4.heap.size, 0, none⟩ = some (.slice afb9 cells.length cfb9) := by subst hW9; exact qCl
        have b131 : w5.cell? ⟨w4.heap.size, 1, none⟩ = some (.slice efb9 es.length dfb9) := by subst hW9; exact qCl
        have z_b1 : w.heap.size < w5.heap.size := qB b10
        have z_b2 : w.heap.size + 1 < w5.heap.size := qB b20
        have z_b13 : w4.heap.size < w5.heap.size := qB b130
        replace i6 := i6.ext Lw5
        replace bf8 := bf8.ext Lw5
        have s_w5 : w.heap.size ≤ w5.heap.size := Xw5.size
        have BL12_w5 : Ext w3 w5 := BL12_w4.trans Lw5
        clear hW9
        obtain ⟨gr14, rr15, hvgr14, -⟩ := bf8.ex.big hesne.out
        injection hvgr14 with hvgr14a hvgr14b hvgr14c
        subst hvgr14a
        subst hvgr14c
        obtain ⟨hlgr14, hhgr14⟩ := q_bf8.out.e gr14 rfl
        obtain ⟨A16a, A16b⟩ := bf8.ex.cells rfl k 4 hlt (by omega)
        simp only [eCells, List.getElem?_cons_zero, List.getElem?_cons_succ] at A16a
        have S_bf8 := bf8.close rfl k hlt false
        replace S_bf8 := Lib.hid S_bf8
        replace bf8 := Lib.hid bf8
        go_wp2_with fail
        generalize hW10 : (w5.setCell ⟨gr14, k * 5 + 4, none⟩ (.bool false)) = w6 at *
        have Kw6 : Chg (gr14) (gr14 + 1) w5 w6 := by subst hW10; exact qCh
        have Xw6 : Ext w w6 := by subst hW10; exact qXt
        have BL12_w6 : Ext w3 w6 := by subst hW10; exact qXt
        replace b10 := BL12_w6.cell Q11_b10.out
        replace b11 := BL12_w6.cell Q11_b11.out
        replace b20 := BL12_w6.cell Q11_b20.out
        replace f_b20 := BL12_w6.frz Q11_zb2 Q11_f_b20.out
        replace b21 := BL12_w6.cell Q11_b21.out
        replace f_b21 := BL12_w6.frz Q11_zb2 Q11_f_b21.out
        replace b130 := Kw6.cell (by omega) b130
        replace b131 := Kw6.cell (by omega) b131
        replace i6 := (Q11_i6.out).ext BL12_w6
        clear Kw6
        have z_b1 : w.heap.size < w6.heap.size := qB b10
        have z_b2 : w.heap.size + 1 < w6.heap.size := qB b20
        have z_b13 : w4.heap.size < w6.heap.size := qB b130
        have s_w6 : w.heap.size ≤ w6.heap.size := Xw6.size
        clear hW10
        clear bf8 A16a A16b
        have bf8 := S_bf8.out
        clear S_bf8
        go_wp2_with fail
        generalize hW11 : ((w6.setCell ⟨w.heap.size + 1, 0, none⟩ (.slice afb9 cells.length cfb9)).setCell ⟨w.heap.size + 1, 1, none⟩ (.slice (some ⟨gr14, 0, none⟩) es.length dfb9)) = w7 at *
        have Kw7 : Chg (w.heap.size + 1) (w.heap.size + 1 + 1) w6 w7 := by subst hW11; exact qCh
        have Xw7 : Ext w w7 := by subst hW11; exact qXt
        replace b10 := Kw7.cell (by omega) b10
        replace b11 := Kw7.cell (by omega) b11
        replace b20 : w7.cell? ⟨w.heap.size + 1, 0, none⟩ = some (.slice afb9 cells.length cfb9) := by subst hW11; go_simp
        replace f_b20 : w7.frozen? ⟨w.heap.size + 1, 0, none⟩ = false := by subst hW11; first | (simp only [World.frozen?_setCell]; with_reducible assumption) | go_simp
        replace b21 : w7.cell? ⟨w.heap.size + 1, 1, none⟩ = some (.slice (some ⟨gr14, 0, none⟩) es.length dfb9) := by subst hW11; go_simp
        replace f_b21 : w7.frozen? ⟨w.heap.size + 1, 1, none⟩ = false := by subst hW11; first | (simp only [World.frozen?_setCell]; with_reducible assumption) | go_simp
        replace b130 := Kw7.cell (by omega) b130
        replace b131 := Kw7.cell (by omega) b131
        replace i6 := i6.chg Kw7 (by omega)
        replace bf8 := bf8.chg Kw7 (by omega)
        clear Kw7
        have z_b1 : w.heap.size < w7.heap.size := qB b10
        have z_b2 : w.heap.size + 1 < w7.heap.size := qB b20
        have z_b13 : w4.heap.size < w7.heap.size := qB b130
        have s_w7 : w.heap.size ≤ w7.heap.size := Xw7.size
        clear hW11
        refine bodyPost_ret (v := .tuple #[.agg #[.slice afb9 cells.length cfb9, .slice (some ⟨gr14, 0, none⟩) es.length dfb9], .bool true]) (by simp only [results, Tryd.results34]; go_simp) rfl ?_
        exact PBX.yes (by unfold relA; rw [hbb.out, hop.out, decide_eq_true (show (selL (kidP (k : Int)) es es.length).length = 0 by omega)]; rfl) ((bf8.ext qXt).lower (by omega)) (Xw7.trans qXt)


end Go.Proofs.YtgklaobfikbiiaaDoor

/- The builtin copy on a row of ints. No condition. -/
namespace Go.Proofs.YtgklaobfikbiiaaDoor
open Go.RowKit
set_option linter.unusedVariables false
set_option maxRecDepth 100000

end Go.Proofs.YtgklaobfikbiiaaDoor

/- Walks: ResizeBuffer of both. -/
namespace Go.Proofs.YtgklaobfikbiiaaDoor
open Go.RowKit
set_option linter.unusedVariables false
set_option maxRecDepth 100000


theorem fit_step {xs : List Int} {N k : Nat} (h1 : k < N) (h2 : k < xs.length) : xs.take (k+1) ++ List.replicate (N - (k+1)) 0 = (xs.take k ++ List.replicate (N - k) 0).set k (xs.getD k 0) := by
 refine List.ext_getElem (by simp; omega) fun j a b => ?_
 rw [List.getElem_set]
 simp only [List.getElem_append, List.length_take, List.getElem_take, List.getElem_replicate]
 by_cases hj : k = j
 ·
  subst hj
  rw [if_pos rfl, dif_pos (by omega), List.getD_eq_getElem?_getD, List.getElem?_eq_getElem h2]; rfl
 ·
  rw [if_neg hj]
  by_cases hk : j < k
  ·
   rw [dif_pos (by omega), dif_pos (by omega)]
  ·
   rw [dif_neg (by omega), dif_neg (by omega)]
theorem fit_end {xs : List Int} {N k : Nat} (h : (k ≤ N ∧ k ≤ xs.length) ∧ (k = N ∨ k = xs.length)) : xs.take k ++ List.replicate (N - k) 0 = fitL xs N := by
 unfold fitL
 rcases h.2 with rfl | rfl
 ·
  rw [Nat.sub_self, show k - xs.length = 0 by omega]
 ·
  rw [List.take_of_length_le (Nat.le_refl _), List.take_of_length_le (by omega)]

set_option maxHeartbeats 3200000 in
theorem specResizeBuffer_c (cells : List Int) (es : List Exp) (cv ev : Value) (n : Int) (w : World) (l1 l2 : Nat) (h1 : Ints w l1 cv cells) (h2 : Exps w l2 ev es) :
  Calls Tryd.prog 29 #[.agg #[cv, ev], .int .i64 n] w (PBX w (resA cells es n)) := by
 obtain ⟨p0, c0, rfl⟩ := h1.form
 obtain ⟨p1, c1, rfl⟩ := h2.form
 have he1 := h2.len
 have hc1 := h1.len
 go_enter Tryd.func29, Tryd.ntmps29
 go_wp2_with fail
 refine (validBuffer_c cells es (.slice p0 cells.length c0) (.slice p1 es.length c1) _ _ _ (h1.ext qXt) (h2.ext qXt)).mono ?_
 rintro e w1 ⟨rfl, xw1⟩
 have Lw1 : Ext w w1 := Ext.trans qXt xw1
 have Xw1 : Ext w w1 := Lw1
 have b10 : w1.cell? ⟨w.heap.size, 0, none⟩ = some (.slice p0 cells.length c0) := xw1.cell qCl
 have b11 : w1.cell? ⟨w.heap.size, 1, none⟩ = some (.slice p1 es.length c1) := xw1.cell qCl
 have b20 : w1.cell? ⟨w.heap.size + 1, 0, none⟩ = some (.slice none 0 0) := xw1.cell qCl
 have b21 : w1.cell? ⟨w.heap.size + 1, 1, none⟩ = some (.slice none 0 0) := xw1.cell qCl
 have f_b20 : w1.frozen? ⟨w.heap.size + 1, 0, none⟩ = false := xw1.frz (by simp <;> omega) qFz
 have f_b21 : w1.frozen? ⟨w.heap.size + 1, 1, none⟩ = false := xw1.frz (by simp <;> omega) qFz
 have z_b1 : w.heap.size < w1.heap.size := qB b10
 have z_b2 : w.heap.size + 1 < w1.heap.size := qB b20
 have s_w1 : w.heap.size ≤ w1.heap.size := Xw1.size
 clear xw1
 cases hB3 : bufB cells es
 ·
  replace hB3 := Lib.hid hB3
  go_wp2_with fail
  generalize hW1 : ((w1.setCell ⟨w.heap.size + 1, 0, none⟩ (.slice none 0 0)).setCell ⟨w.heap.size + 1, 1, none⟩ (.slice none 0 0)) = w2 at *
  have Kw2 : Chg (w.heap.size + 1) (w.heap.size + 1 + 1) w1 w2 := by subst hW1; exact qCh
  have Xw2 : Ext w w2 := by subst hW1; exact qXt
  replace b10 := Kw2.cell (by omega) b10
  replace b11 := Kw2.cell (by omega) b11
  replace b20 : w2.cell? ⟨w.heap.size + 1, 0, none⟩ = some (.slice none 0 0) := by subst hW1; go_simp
  replace f_b20 : w2.frozen? ⟨w.heap.size + 1, 0, none⟩ = false := by subst hW1; first | (simp only [World.frozen?_setCell]; with_reducible assumption) | go_simp
  replace b21 : w2.cell? ⟨w.heap.size + 1, 1, none⟩ = some (.slice none 0 0) := by subst hW1; go_simp
  replace f_b21 : w2.frozen? ⟨w.heap.size + 1, 1, none⟩ = false := by subst hW1; first | (simp only [World.frozen?_setCell]; with_reducible assumption) | go_simp
  clear Kw2
  have z_b1 : w.heap.size < w2.heap.size := qB b10
  have z_b2 : w.heap.size + 1 < w2.heap.size := qB b20
  have s_w2 : w.heap.size ≤ w2.heap.size := Xw2.size
  clear hW1
  refine bodyPost_ret (v := .tuple #[.agg #[.slice none 0 0, .slice none 0 0], .bool false]) (by simp only [results, Tryd.results29]; go_simp) rfl ?_
  exact PBX.no (by unfold resA; rw [hB3.out]; rfl) (Xw2.trans qXt)
 ·
  replace hB3 := Lib.hid hB3
  have hbb : Hid (bufB cells es = true) := Lib.hid hB3.out
  have hoa : Hid (openA cells es = selL opP es es.length) := Lib.hid (by unfold openA; rw [hbb.out]; rfl)
  have hc60 := (bufB_in hbb.out).2.1
  go_wp2_with fail
  refine (inRange_c n 0 60 _).mono ?_
  rintro e w' ⟨rfl, rfl⟩
  cases hB4 : inB 0 60 n
  ·
   replace hB4 := Lib.hid hB4
   go_wp2_with fail
   generalize hW2 : ((w1.setCell ⟨w.heap.size + 1, 0, none⟩ (.slice none 0 0)).setCell ⟨w.heap.size + 1, 1, none⟩ (.slice none 0 0)) = w2 at *
   have Kw2 : Chg (w.heap.size + 1) (w.heap.size + 1 + 1) w1 w2 := by subst hW2; exact qCh
   have Xw2 : Ext w w2 := by subst hW2; exact qXt
   replace b10 := Kw2.cell (by omega) b10
   replace b11 := Kw2.cell (by omega) b11
   replace b20 : w2.cell? ⟨w.heap.size + 1, 0, none⟩ = some (.slice none 0 0) := by subst hW2; go_simp
   replace f_b20 : w2.frozen? ⟨w.heap.size + 1, 0, none⟩ = false := by subst hW2; first | (simp only [World.frozen?_setCell]; with_reducible assumption) | go_simp
   replace b21 : w2.cell? ⟨w.heap.size + 1, 1, none⟩ = some (.slice none 0 0) := by subst hW2; go_simp
   replace f_b21 : w2.frozen? ⟨w.heap.size + 1, 1, none⟩ = false := by subst hW2; first | (simp only [World.frozen?_setCell]; with_reducible assumption) | go_simp
   clear Kw2
   have z_b1 : w.heap.size < w2.heap.size := qB b10
   have z_b2 : w.heap.size + 1 < w2.heap.size := qB b20
   have s_w2 : w.heap.size ≤ w2.heap.size := Xw2.size
   clear hW2
   refine bodyPost_ret (v := .tuple #[.agg #[.slice none 0 0, .slice none 0 0], .bool false]) (by simp only [results, Tryd.results29]; go_simp) rfl ?_
   exact PBX.no (by unfold resA; rw [hbb.out, hB4.out]; rfl) (Xw2.trans qXt)
  ·
   replace hB4 := Lib.hid hB4
   have hin : Hid (inB 0 60 n = true) := Lib.hid hB4.out
   obtain ⟨hn0, hn60⟩ : 0 ≤ n ∧ n ≤ 60 := by have h7 := hB4.out; unfold inB at h7; simp only [Bool.and_eq_true, decide_eq_true_eq] at h7; omega
   obtain ⟨N, rfl⟩ : ∃ N : Nat, n = N := ⟨n.toNat, by omega⟩
   go_wp2_with fail
   refine (pi_eq hoa.out (specOpenOf_c cells es (.slice p0 cells.length c0) (.slice p1 es.length c1) _ _ _ (h1.ext (Xw1.trans qXt)) (h2.ext (Xw1.trans qXt)))).mono ?_
   rintro e w2 ⟨fv5, rfl, i6, -, xw2⟩
   have Lw2 : Ext w1 w2 := Ext.trans qXt xw2
   have Xw2 : Ext w w2 := Xw1.trans Lw2
   replace b10 := Lw2.cell b10
   replace b11 := Lw2.cell b11
   replace b20 := Lw2.cell b20
   replace b21 := Lw2.cell b21
   replace f_b20 := Lw2.frz z_b2 f_b20
   replace f_b21 := Lw2.frz z_b2 f_b21
   have z_b1 : w.heap.size < w2.heap.size := qB b10
   have z_b2 : w.heap.size + 1 < w2.heap.size := qB b20
   have s_w2 : w.heap.size ≤ w2.heap.size := Xw2.size
   clear xw2
   obtain ⟨afv5, cfv5, rfl⟩ := i6.form
   by_cases hc7 : (0 : Int) < ((selL opP es es.length).length : Int)
   ·
    go_wp2_with fail
    generalize hW3 : ((w2.setCell ⟨w.heap.size + 1, 0, none⟩ (.slice none 0 0)).setCell ⟨w.heap.size + 1, 1, none⟩ (.slice none 0 0)) = w3 at *
    have Kw3 : Chg (w.heap.size + 1) (w.heap.size + 1 + 1) w2 w3 := by subst hW3; exact qCh
    have Xw3 : Ext w w3 := by subst hW3; exact qXt
    replace b10 := Kw3.cell (by omega) b10
    replace b11 := Kw3.cell (by omega) b11
    replace b20 : w3.cell? ⟨w.heap.size + 1, 0, none⟩ = some (.slice none 0 0) := by subst hW3; go_simp
    replace f_b20 : w3.frozen? ⟨w.heap.size + 1, 0, none⟩ = false := by subst hW3; first | (simp only [World.frozen?_setCell]; with_reducible assumption) | go_simp
    replace b21 : w3.cell? ⟨w.heap.size + 1, 1, none⟩ = some (.slice none 0 0) := by subst hW3; go_simp
    replace f_b21 : w3.frozen? ⟨w.heap.size + 1, 1, none⟩ = false := by subst hW3; first | (simp only [World.frozen?_setCell]; with_reducible assumption) | go_simp
    replace i6 := i6.chg Kw3 (by omega)
    clear Kw3
    have z_b1 : w.heap.size < w3.heap.size := qB b10
    have z_b2 : w.heap.size + 1 < w3.heap.size := qB b20
    have s_w3 : w.heap.size ≤ w3.heap.size := Xw3.size
    clear hW3
    refine bodyPost_ret (v := .tuple #[.agg #[.slice none 0 0, .slice none 0 0], .bool false]) (by simp only [results, Tryd.results29]; go_simp) rfl ?_
    exact PBX.no (by unfold resA; rw [hbb.out, hin.out, decide_eq_false (show ¬ (selL opP es es.length).length = 0 by omega)]; rfl) (Xw3.trans qXt)
   ·
    go_wp2_with fail
    have Q11_b10 := Lib.hid b10
    have Q11_b11 := Lib.hid b11
    have Q11_zb1 := z_b1
    have Q11_b20 := Lib.hid b20
    have Q11_f_b20 := Lib.hid f_b20
    have Q11_b21 := Lib.hid b21
    have Q11_f_b21 := Lib.hid f_b21
    have Q11_zb2 := z_b2
    have Q11_i6 := Lib.hid i6
    have BL12 : Ext w2 w2 := Ext.refl _
    refine (specCopyBuffer_c cells es (.slice p0 cells.length c0) (.slice p1 es.length c1) _ _ _ (h1.ext (Xw2.trans qXt)) (h2.ext (Xw2.trans qXt))).mono ?_
    rintro e w3 ⟨cvfb9, evfb9, R10, rfl, bf8, xw3⟩
    have Lw3 : Ext w2 w3 := Ext.trans qXt xw3
    have Xw3 : Ext w w3 := Xw2.trans Lw3
    replace b10 := Lw3.cell b10
    replace b11 := Lw3.cell b11
    replace b20 := Lw3.cell b20
    replace b21 := Lw3.cell b21
    replace f_b20 := Lw3.frz z_b2 f_b20
    replace f_b21 := Lw3.frz z_b2 f_b21
    have z_b1 : w.heap.size < w3.heap.size := qB b10
    have z_b2 : w.heap.size + 1 < w3.heap.size := qB b20
    replace i6 := i6.ext Lw3
    have s_w3 : w.heap.size ≤ w3.heap.size := Xw3.size
    have BL12_w3 : Ext w2 w3 := BL12.trans Lw3
    clear xw3
    replace bf8 := bf8.lower (lo' := w2.heap.size) qSo
    obtain ⟨afb9, cfb9, rfl⟩ := bf8.ints.form
    obtain ⟨efb9, dfb9, rfl⟩ := bf8.exps.form
    have q_bf8 := Lib.hid bf8.at
    have Q13_b10 := Lib.hid b10
    have Q13_b11 := Lib.hid b11
    have Q13_zb1 := z_b1
    have Q13_b20 := Lib.hid b20
    have Q13_f_b20 := Lib.hid f_b20
    have Q13_b21 := Lib.hid b21
    have Q13_f_b21 := Lib.hid f_b21
    have Q13_zb2 := z_b2
    have Q13_i6 := Lib.hid i6
    have Q13_bf8 := Lib.hid bf8
    have BL14 : Ext w3 w3 := Ext.refl _
    go_upto_region 4 with fail
    have zn_BL12_w4 := (BL12_w3).size
    have zn_BL14_w4 := (BL14).size
    generalize hW4 : w3.alloc (.cells #[.slice afb9 cells.length cfb9, .slice efb9 es.length dfb9] 34) = w4 at *
    have Lw4 : Ext w3 w4 := by subst hW4; exact qXt
    have Xw4 : Ext w w4 := Xw3.trans Lw4
    replace b10 := Lw4.cell b10
    replace b11 := Lw4.cell b11
    replace b20 := Lw4.cell b20
    replace b21 := Lw4.cell b21
    replace f_b20 := Lw4.frz z_b2 f_b20
    replace f_b21 := Lw4.frz z_b2 f_b21
    have b150 : w4.cell? ⟨w3.heap.size, 0, none⟩ = some (.slice afb9 cells.length cfb9) := by subst hW4; exact qCl
    have b151 : w4.cell? ⟨w3.heap.size, 1, none⟩ = some (.slice efb9 es.length dfb9) := by subst hW4; exact qCl
    have f_b150 : w4.frozen? ⟨w3.heap.size, 0, none⟩ = false := by subst hW4; exact qFz
    have f_b151 : w4.frozen? ⟨w3.heap.size, 1, none⟩ = false := by subst hW4; exact qFz
    have z_b1 : w.heap.size < w4.heap.size := qB b10
    have z_b2 : w.heap.size + 1 < w4.heap.size := qB b20
    have z_b15 : w3.heap.size < w4.heap.size := qB b150
    replace i6 := i6.ext Lw4
    replace bf8 := bf8.ext Lw4
    have s_w4 : w.heap.size ≤ w4.heap.size := Xw4.size
    have BL12_w4 : Ext w2 w4 := BL12_w3.trans Lw4
    have BL14_w4 : Ext w3 w4 := BL14.trans Lw4
    clear hW4
    have zBL12_mw4 := (BL12_w4).size
    have zBL14_mw4 := (BL14_w4).size
    have Q16_b10 := Lib.hid b10
    have Q16_b11 := Lib.hid b11
    have Q16_zb1 := z_b1
    have Q16_b20 := Lib.hid b20
    have Q16_f_b20 := Lib.hid f_b20
    have Q16_b21 := Lib.hid b21
    have Q16_f_b21 := Lib.hid f_b21
    have Q16_zb2 := z_b2
    have Q16_b150 := Lib.hid b150
    have Q16_f_b150 := Lib.hid f_b150
    have Q16_b151 := Lib.hid b151
    have Q16_f_b151 := Lib.hid f_b151
    have Q16_zb15 := z_b15
    have Q16_i6 := Lib.hid i6
    have Q16_bf8 := Lib.hid bf8
    have BL17 : Ext w4 w4 := Ext.refl _
    obtain ⟨i0mk18, himk18, hz0mk18, hz1mk18, hz2mk18⟩ := info_parts infoInt
    go_wp2_with (at_make; refine wpList_make_full _ rfl _ _ 23 rfl w4.heap.size 3 i0mk18 (.int .i64 0) 1 Tryd.underlying23 himk18 hz0mk18 hz1mk18 .i64 .i64 _ _ N rfl rfl rfl rfl (by rw [hz2mk18]; omega) (by unfold maxLen; omega) (Nat.le_refl _) ?_)
    intro w5 hown7 hgr7
    have xw5 : Ext w4 w5 := (Ext.refl w4).grown hgr7 (by simp)
    rw [made_ints] at hown7
    clear hgr7
    have O19 : OwnI w5 w4.heap.size (.slice (some ⟨w4.heap.size, 0, none⟩) N N) (List.replicate N 0) := by unfold OwnI; simpa using hown7
    clear hown7 himk18 hz0mk18 hz1mk18 hz2mk18
    have Lw5 : Ext w4 w5 := Ext.trans qXt xw5
    have Xw5 : Ext w w5 := Xw4.trans Lw5
    replace b10 := Lw5.cell b10
    replace b11 := Lw5.cell b11
    replace b20 := Lw5.cell b20
    replace b21 := Lw5.cell b21
    replace f_b20 := Lw5.frz z_b2 f_b20
    replace f_b21 := Lw5.frz z_b2 f_b21
    replace b150 := Lw5.cell b150
    replace b151 := Lw5.cell b151
    replace f_b150 := Lw5.frz z_b15 f_b150
    replace f_b151 := Lw5.frz z_b15 f_b151
    have z_b1 : w.heap.size < w5.heap.size := qB b10
    have z_b2 : w.heap.size + 1 < w5.heap.size := qB b20
    have z_b15 : w3.heap.size < w5.heap.size := qB b150
    replace i6 := i6.ext Lw5
    replace bf8 := bf8.ext Lw5
    have s_w5 : w.heap.size ≤ w5.heap.size := Xw5.size
    have BL12_w5 : Ext w2 w5 := BL12_w4.trans Lw5
    have BL14_w5 : Ext w3 w5 := BL14_w4.trans Lw5
    have BL17_w5 : Ext w4 w5 := BL17.trans Lw5
    clear xw5
    skip
    go_wp2_with fail
    generalize hW5 : (w5.setCell ⟨w3.heap.size, 0, none⟩ (.slice (some ⟨w4.heap.size, 0, none⟩) N N)) = w6 at *
    have Kw6 : Chg (w3.heap.size) (w3.heap.size + 1) w5 w6 := by subst hW5; exact qCh
    have Xw6 : Ext w w6 := by subst hW5; exact qXt
    have BL12_w6 : Ext w2 w6 := by subst hW5; exact qXt
    have BL14_w6 : Ext w3 w6 := by subst hW5; exact qXt
    replace b10 := BL14_w6.cell Q13_b10.out
    replace b11 := BL14_w6.cell Q13_b11.out
    replace b20 := BL14_w6.cell Q13_b20.out
    replace f_b20 := BL14_w6.frz Q13_zb2 Q13_f_b20.out
    replace b21 := BL14_w6.cell Q13_b21.out
    replace f_b21 := BL14_w6.frz Q13_zb2 Q13_f_b21.out
    replace b150 : w6.cell? ⟨w3.heap.size, 0, none⟩ = some (.slice (some ⟨w4.heap.size, 0, none⟩) N N) := by subst hW5; go_simp
    replace f_b150 : w6.frozen? ⟨w3.heap.size, 0, none⟩ = false := by subst hW5; first | (simp only [World.frozen?_setCell]; with_reducible assumption) | go_simp
    replace b151 : w6.cell? ⟨w3.heap.size, 1, none⟩ = some (.slice efb9 es.length dfb9) := by subst hW5; go_simp
    replace f_b151 : w6.frozen? ⟨w3.heap.size, 1, none⟩ = false := by subst hW5; first | (simp only [World.frozen?_setCell]; with_reducible assumption) | go_simp
    replace i6 := (Q13_i6.out).ext BL14_w6
    replace bf8 := (Q13_bf8.out).ext BL14_w6
    replace O19 := O19.chgN Kw6 (by omega)
    clear Kw6
    have z_b1 : w.heap.size < w6.heap.size := qB b10
    have z_b2 : w.heap.size + 1 < w6.heap.size := qB b20
    have z_b15 : w3.heap.size < w6.heap.size := qB b150
    have s_w6 : w.heap.size ≤ w6.heap.size := Xw6.size
    clear hW5
    replace bf8 := BufT.of bf8 q_bf8.out
    clear i6
    go_loopw [7] (fun i wr => ∃ (k : Nat), k ≤ N ∧ k ≤ cells.length ∧ i = .int .i64 k ∧ OwnI wr (w4.heap.size) (.slice (some ⟨w4.heap.size, 0, none⟩) N N) (cells.take k ++ List.replicate (N - k) 0) ∧ Chg (w4.heap.size) (w4.heap.size + 1) w6 wr) (fun i _ => N - (intOf i).toNat)
    case atStart => exact ⟨0, Nat.zero_le _, Nat.zero_le _, rfl, (show OwnI _ _ _ (cells.take 0 ++ List.replicate (N - 0) 0) from (O19.ext qXt)), Chg.refl _ _ _⟩
    case round =>
     obtain ⟨k, hk, hkc, rfl, O19n, Kr20⟩ := hrel
     have Xwr : Ext w wr := Ext.chg Xw6 Kr20 (by omega)
     have s_wr : w.heap.size ≤ wr.heap.size := Xwr.size
     have t_wr : w6.heap.size ≤ wr.heap.size := Kr20.size
     replace b10 := Kr20.cell (by omega) b10
     replace b11 := Kr20.cell (by omega) b11
     replace b20 := Kr20.cell (by omega) b20
     replace f_b20 := Kr20.frzO (by omega) (by omega) f_b20
     replace b21 := Kr20.cell (by omega) b21
     replace f_b21 := Kr20.frzO (by omega) (by omega) f_b21
     replace b150 := Kr20.cell (by omega) b150
     replace f_b150 := Kr20.frzO (by omega) (by omega) f_b150
     replace b151 := Kr20.cell (by omega) b151
     replace f_b151 := Kr20.frzO (by omega) (by omega) f_b151
     have z_b1 : w.heap.size < wr.heap.size := qB b10
     have z_b2 : w.heap.size + 1 < wr.heap.size := qB b20
     have z_b15 : w3.heap.size < wr.heap.size := qB b150
     replace bf8 := bf8.chg Kr20 (by omega)
     clear O19
     have O19 := O19n
     clear O19n
     rcases (show (k < N ∧ k < cells.length) ∨ ¬ k < N ∨ (k < N ∧ ¬ k < cells.length) by omega) with hlt | hlt | hlt
     ·
      have hkI : (k : Int) < (N : Int) := by omega
      have hkJ : (k : Int) < (cells.length : Int) := by omega
      have hs := Lib.hid (fit_step (xs := cells) hlt.1 hlt.2)
      go_wp2_with fail
      have hN_e23 : k < cells.length := hlt.2
      have hI_e23 : (k : Int) < (cells.length : Int) := by omega
      obtain ⟨bl21, ol22, rfl, e230⟩ := h1.at k hlt.2
      have y_e23 : bl21 < w.heap.size := qB e230
      replace e230 := Xwr.cell e230
      obtain ⟨v24, hv24⟩ : ∃ v, cells.getD k 0 = v := ⟨_, rfl⟩
      rw [hv24] at e230
      replace hv24 := Lib.hid hv24
      have z_e23 : bl21 < wr.heap.size := qB e230
      have A25 := O19.cell k (by simp only [List.length_append, List.length_take, List.length_replicate]; omega)
      obtain ⟨A25a, A25b⟩ := A25
      refine wp_region_tail (S := fun w' => w'.cell? ⟨w.heap.size, 0, none⟩ = some (.slice (some ⟨bl21, ol22, none⟩) cells.length c0) ∧ w'.cell? ⟨w3.heap.size, 0, none⟩ = some (.slice (some ⟨w4.heap.size, 0, none⟩) N N) ∧ w'.cell? ⟨bl21, ol22 + k, none⟩ = some (.int .i64 v24)) (fun i => decide (9 ≤ i)) qKr ⟨b10, b150, e230⟩ (fun hHeld => ?_)
      refine qTk (v := ?_) 0 rfl (.inl ⟨by rfl, ?_⟩) ?_
      rotate_left
      ·
       (intro w hSw; (try dsimp only at hSw); go_simp; try with_reducible rfl)
      try simp only [Act.put, qa, qb, qc, qD, qE, qF]
      refine qTk (v := ?_) 1 rfl (.inl ⟨by rfl, ?_⟩) ?_
      rotate_left
      ·
       (intro w hSw; (try dsimp only at hSw); go_simp; try with_reducible rfl)
      try simp only [Act.put, qa, qb, qc, qD, qE, qF]
      refine qTk (v := ?_) 2 rfl (.inl ⟨by rfl, ?_⟩) ?_
      rotate_left
      ·
       (intro w hSw; (try dsimp only at hSw); go_simp; try with_reducible rfl)
      try simp only [Act.put, qa, qb, qc, qD, qE, qF]
      refine qTk (v := ?_) 3 rfl (.inl ⟨by rfl, ?_⟩) ?_
      rotate_left
      ·
       (intro w hSw; (try dsimp only at hSw); go_simp; try with_reducible rfl)
      try simp only [Act.put, qa, qb, qc, qD, qE, qF]
      refine qTk (v := ?_) 4 rfl (.inl ⟨by rfl, ?_⟩) ?_
      rotate_left
      ·
       (intro w hSw; (try dsimp only at hSw); go_simp; try with_reducible rfl)
      try simp only [Act.put, qa, qb, qc, qD, qE, qF]
      refine qTk (v := ?_) 5 rfl (.inl ⟨by rfl, ?_⟩) ?_
      rotate_left
      ·
       (intro w hSw; (try dsimp only at hSw); go_simp; try with_reducible rfl)
      try simp only [Act.put, qa, qb, qc, qD, qE, qF]
      refine qTk (v := ?_) 6 rfl (.inl ⟨by rfl, ?_⟩) ?_
      rotate_left
      ·
       (intro w hSw; (try dsimp only at hSw); go_simp; try with_reducible rfl)
      try simp only [Act.put, qa, qb, qc, qD, qE, qF]
      refine qTk (v := ?_) 7 rfl (.inl ⟨by rfl, ?_⟩) ?_
      rotate_left
      ·
       (intro w hSw; (try dsimp only at hSw); go_simp; try with_reducible rfl)
      try simp only [Act.put, qa, qb, qc, qD, qE, qF]
      refine qTk (v := ?_) 8 rfl (.inl ⟨by rfl, ?_⟩) ?_
      rotate_left
      ·
       (intro w hSw; (try dsimp only at hSw); go_simp; try with_reducible rfl)
      try simp only [Act.put, qa, qb, qc, qD, qE, qF]
      refine wpTail_last (i := 9) qKr rfl rfl (fun K hK => ?_)
      try simp only [Act.put, qa, qb, qc, qD, qE, qF]
      go_simp
      refine hK.out _ _ ?_
      clear hK K
      try simp only [Act.put, qa, qb, qc, qD, qE, qF]
      refine wpTail_done qKr ?_ _
      clear hHeld 
      clear e230 z_e23
      generalize hW6 : ((wr.setCell ⟨w4.heap.size, k, none⟩ (.int .i64 v24)).drew) = w7 at *
      have Kw7 : Chg (w4.heap.size) (w4.heap.size + 1) wr w7 := by subst hW6; exact qCh
      have Xw7 : Ext w w7 := by subst hW6; exact qXt
      have Kr20_w7 : Chg w4.heap.size (w4.heap.size + 1) w6 w7 := Chg.trans Kr20 Kw7
      replace b10 := Kw7.cell (by omega) b10
      replace b11 := Kw7.cell (by omega) b11
      replace b20 := Kw7.cell (by omega) b20
      replace f_b20 := Kw7.frzO (by omega) z_b2 f_b20
      replace b21 := Kw7.cell (by omega) b21
      replace f_b21 := Kw7.frzO (by omega) z_b2 f_b21
      replace b150 := Kw7.cell (by omega) b150
      replace f_b150 := Kw7.frzO (by omega) z_b15 f_b150
      replace b151 := Kw7.cell (by omega) b151
      replace f_b151 := Kw7.frzO (by omega) z_b15 f_b151
      replace bf8 := bf8.chg Kw7 (by omega)
      have n_O19 := O19.setD k (v24) (by first | omega | (simp; omega) | (rw [putUp_len]; simp; omega) | (rw [addUp_len]; omega))
      rw [hW6] at n_O19
      replace O19 := n_O19
      clear n_O19
      clear Kw7
      have z_b1 : w.heap.size < w7.heap.size := qB b10
      have z_b2 : w.heap.size + 1 < w7.heap.size := qB b20
      have z_b15 : w3.heap.size < w7.heap.size := qB b150
      have s_w7 : w.heap.size ≤ w7.heap.size := Xw7.size
      clear hW6
      clear A25a A25b
      go_wp2_with fail
      go_roundw
      case rel => exact ⟨k + 1, by omega, by omega, by go_num, (by rw [hs.out, hv24.out]; exact O19.ext qXt), Kr20_w7.ext qXt⟩
      case measure => simp [intOf]; omega
     ·
      have hkI : ¬ (k : Int) < (N : Int) := by omega
      go_wp2_with fail
      generalize hW7 : ((wr.setCell ⟨w.heap.size + 1, 0, none⟩ (.slice (some ⟨w4.heap.size, 0, none⟩) N N)).setCell ⟨w.heap.size + 1, 1, none⟩ (.slice efb9 es.length dfb9)) = w7 at *
      have Kw7 : Chg (w.heap.size + 1) (w.heap.size + 1 + 1) wr w7 := by subst hW7; exact qCh
      have Xw7 : Ext w w7 := by subst hW7; exact qXt
      replace b10 := Kw7.cell (by omega) b10
      replace b11 := Kw7.cell (by omega) b11
      replace b20 : w7.cell? ⟨w.heap.size + 1, 0, none⟩ = some (.slice (some ⟨w4.heap.size, 0, none⟩) N N) := by subst hW7; go_simp
      replace f_b20 : w7.frozen? ⟨w.heap.size + 1, 0, none⟩ = false := by subst hW7; first | (simp only [World.frozen?_setCell]; with_reducible assumption) | go_simp
      replace b21 : w7.cell? ⟨w.heap.size + 1, 1, none⟩ = some (.slice efb9 es.length dfb9) := by subst hW7; go_simp
      replace f_b21 : w7.frozen? ⟨w.heap.size + 1, 1, none⟩ = false := by subst hW7; first | (simp only [World.frozen?_setCell]; with_reducible assumption) | go_simp
      replace b150 := Kw7.cell (by omega) b150
      replace f_b150 := Kw7.frzO (by omega) z_b15 f_b150
      replace b151 := Kw7.cell (by omega) b151
      replace f_b151 := Kw7.frzO (by omega) z_b15 f_b151
      replace bf8 := bf8.chg Kw7 (by omega)
      replace O19 := O19.chgN Kw7 (by omega)
      clear Kw7
      have z_b1 : w.heap.size < w7.heap.size := qB b10
      have z_b2 : w.heap.size + 1 < w7.heap.size := qB b20
      have z_b15 : w3.heap.size < w7.heap.size := qB b150
      have s_w7 : w.heap.size ≤ w7.heap.size := Xw7.size
      clear hW7
      refine bodyPost_ret (v := .tuple #[.agg #[.slice (some ⟨w4.heap.size, 0, none⟩) N N, .slice efb9 es.length dfb9], .bool true]) (by simp only [results, Tryd.results29]; go_simp) rfl ?_
      have eqA : resA cells es (N : Int) = (fitL cells N, es, true) := by unfold resA; rw [hbb.out, hin.out, decide_eq_true (show (selL opP es es.length).length = 0 by omega), Int.toNat_natCast]; rfl
      rw [show cells.take k ++ List.replicate (N - k) 0 = fitL cells N by exact fit_end (by omega)] at O19
      exact PBX.yes eqA ((bf8.buf.cellsQ (lo2 := w.heap.size) (by omega) q_bf8.out ((O19.lower (base' := w.heap.size) (by omega)).z) (CapZ.same (by rw [fitL_len])) (by rw [fitL_len]; omega) (fun _ g7 hg7 => by have h9 : w4.heap.size = g7 := Option.some.inj hg7; omega)).ext qXt) (Xw7.trans qXt)
     ·
      have hkI : (k : Int) < (N : Int) := by omega
      have hkJ : ¬ (k : Int) < (cells.length : Int) := by omega
      go_wp2_with fail
      generalize hW8 : ((wr.setCell ⟨w.heap.size + 1, 0, none⟩ (.slice (some ⟨w4.heap.size, 0, none⟩) N N)).setCell ⟨w.heap.size + 1, 1, none⟩ (.slice efb9 es.length dfb9)) = w7 at *
      have Kw7 : Chg (w.heap.size + 1) (w.heap.size + 1 + 1) wr w7 := by subst hW8; exact qCh
      have Xw7 : Ext w w7 := by subst hW8; exact qXt
      replace b10 := Kw7.cell (by omega) b10
      replace b11 := Kw7.cell (by omega) b11
      replace b20 : w7.cell? ⟨w.heap.size + 1, 0, none⟩ = some (.slice (some ⟨w4.heap.size, 0, none⟩) N N) := by subst hW8; go_simp
      replace f_b20 : w7.frozen? ⟨w.heap.size + 1, 0, none⟩ = false := by subst hW8; first | (simp only [World.frozen?_setCell]; with_reducible assumption) | go_simp
      replace b21 : w7.cell? ⟨w.heap.size + 1, 1, none⟩ = some (.slice efb9 es.length dfb9) := by subst hW8; go_simp
      replace f_b21 : w7.frozen? ⟨w.heap.size + 1, 1, none⟩ = false := by subst hW8; first | (simp only [World.frozen?_setCell]; with_reducible assumption) | go_simp
      replace b150 := Kw7.cell (by omega) b150
      replace f_b150 := Kw7.frzO (by omega) z_b15 f_b150
      replace b151 := Kw7.cell (by omega) b151
      replace f_b151 := Kw7.frzO (by omega) z_b15 f_b151
      replace bf8 := bf8.chg Kw7 (by omega)
      replace O19 := O19.chgN Kw7 (by omega)
      clear Kw7
      have z_b1 : w.heap.size < w7.heap.size := qB b10
      have z_b2 : w.heap.size + 1 < w7.heap.size := qB b20
      have z_b15 : w3.heap.size < w7.heap.size := qB b150
      have s_w7 : w.heap.size ≤ w7.heap.size := Xw7.size
      clear hW8
      refine bodyPost_ret (v := .tuple #[.agg #[.slice (some ⟨w4.heap.size, 0, none⟩) N N, .slice efb9 es.length dfb9], .bool true]) (by simp only [results, Tryd.results29]; go_simp) rfl ?_
      have eqA : resA cells es (N : Int) = (fitL cells N, es, true) := by unfold resA; rw [hbb.out, hin.out, decide_eq_true (show (selL opP es es.length).length = 0 by omega), Int.toNat_natCast]; rfl
      rw [show cells.take k ++ List.replicate (N - k) 0 = fitL cells N by exact fit_end (by omega)] at O19
      exact PBX.yes eqA ((bf8.buf.cellsQ (lo2 := w.heap.size) (by omega) q_bf8.out ((O19.lower (base' := w.heap.size) (by omega)).z) (CapZ.same (by rw [fitL_len])) (by rw [fitL_len]; omega) (fun _ g7 hg7 => by have h9 : w4.heap.size = g7 := Option.some.inj hg7; omega)).ext qXt) (Xw7.trans qXt)

end Go.Proofs.YtgklaobfikbiiaaDoor

/- Walks: rows, sums. -/
namespace Go.Proofs.YtgklaobfikbiiaaDoor
open Go.RowKit
set_option linter.unusedVariables false
set_option maxRecDepth 100000

end Go.Proofs.YtgklaobfikbiiaaDoor

/- Walks: bounds of the reference. -/
namespace Go.Proofs.YtgklaobfikbiiaaDoor
open Go.RowKit
set_option linter.unusedVariables false
set_option maxRecDepth 100000


end Go.Proofs.YtgklaobfikbiiaaDoor

/- Walks: values that are stored, of the program and of the reference. -/
namespace Go.Proofs.YtgklaobfikbiiaaDoor
open Go.RowKit
set_option linter.unusedVariables false
set_option maxRecDepth 100000


theorem PIntsB.nil {w w' : World} (h : Ext w w') : PIntsB w [] false (.returned (.tuple #[.slice none 0 0, .bool false])) w' :=
  ⟨_, rfl, Ints.nil _ _ _ _ (by simp) (fun _ => rfl), .inl ⟨rfl, none, 0, rfl, by simp, fun _ => rfl⟩, h⟩
end Go.Proofs.YtgklaobfikbiiaaDoor

/- Walks: views that are filled and copied, of both. -/
namespace Go.Proofs.YtgklaobfikbiiaaDoor
open Go.RowKit
set_option linter.unusedVariables false
set_option maxRecDepth 100000


/-- a list after v was stored at the first k places -/
def fillUp (mem ix : List Int) (v : Int) (k : Nat) : List Int := (List.range k).foldl (fun m i => m.set (ix.getD i 0).toNat v) mem
theorem fillUp_succ (mem ix : List Int) (v : Int) (k : Nat) : fillUp mem ix v (k+1) = (fillUp mem ix v k).set (ix.getD k 0).toNat v := by
 unfold fillUp; rw [List.range_succ, List.foldl_append]; rfl
theorem fillUp_len (mem ix : List Int) (v : Int) (k : Nat) : (fillUp mem ix v k).length = mem.length := by
 induction k with
 | zero => rfl
 | succ k ih => rw [fillUp_succ, List.length_set, ih]
theorem fillUp_step {mem ix : List Int} {v : Int} {k j : Nat} (hj : ix.getD k 0 = (j : Int)) : fillUp mem ix v (k+1) = (fillUp mem ix v k).set j v := by
 rw [fillUp_succ, hj]; rfl
def fillB (mem : List Int) (b : Int) (s t : List Int) (v : Int) : Bool := holdB mem b s t && inB 0 255 v
def fillA (mem : List Int) (b : Int) (s t : List Int) (v : Int) : List Int := if fillB mem b s t v then fillUp mem (offsL b s t) v (offsL b s t).length else []
theorem fill_in {mem : List Int} {b : Int} {s t : List Int} (h : holdB mem b s t = true) : viewB b s t = true ∧ (∀ x ∈ offsL b s t, 0 ≤ x ∧ x < mem.length) ∧ mem.length ≤ 60 ∧ (offsL b s t).length ≤ 60 := by
 obtain ⟨g1, g2, g3⟩ := hold_in h
 have g4 := shapeB_in (viewB_in g2).1
 unfold memB at g1
 simp only [Bool.and_eq_true, decide_eq_true_eq] at g1
 exact ⟨g2, g3, g1.1, by rw [offs_count]; omega⟩
theorem fillA_len {mem : List Int} {b : Int} {s t : List Int} {v : Int} (h : fillB mem b s t v = true) : (fillA mem b s t v).length = mem.length := by unfold fillA; rw [if_pos h, fillUp_len]
def copyA (mem : List Int) (b1 : Int) (s1 t1 : List Int) (b2 : Int) (s2 t2 : List Int) : List Int := if pairB mem b1 s1 t1 b2 s2 t2 then putL mem (offsL b1 s1 t1) (loadL mem b2 s2 t2) else []
theorem pair_in {mem : List Int} {b1 : Int} {s1 t1 : List Int} {b2 : Int} {s2 t2 : List Int} (h : pairB mem b1 s1 t1 b2 s2 t2 = true) : holdB mem b1 s1 t1 = true ∧ holdB mem b2 s2 t2 = true ∧ (loadL mem b2 s2 t2).length = (offsL b1 s1 t1).length := by
 unfold pairB at h
 simp only [Bool.and_eq_true] at h
 have he := sameB_eq h.2.2
 exact ⟨h.1, h.2.1, by unfold loadL; rw [takL_len, offs_count, offs_count, he]⟩
theorem copyA_len {mem : List Int} {b1 : Int} {s1 t1 : List Int} {b2 : Int} {s2 t2 : List Int} (h : pairB mem b1 s1 t1 b2 s2 t2 = true) : (copyA mem b1 s1 t1 b2 s2 t2).length = mem.length := by unfold copyA putL; rw [if_pos h, putUp_len]

set_option maxHeartbeats 3200000 in
theorem specFillView_c (mem : List Int) (a0 : Value) (b1 : Int) (u1 v1 : Value) (s1 t1 : List Int) (x : Int) (w : World) (l0 : Nat) (h0 : Ints w l0 a0 mem) (l1 m1 : Nat) (h1 : Ints w l1 u1 s1) (k1 : Ints w m1 v1 t1) :
  Calls Tryd.prog 44 #[a0, .agg #[.int .i64 b1, u1, v1], .int .i64 x] w (PIntsBC w (fillA mem b1 s1 t1 x) (fillB mem b1 s1 t1 x)) := by
 obtain ⟨p0, c0, rfl⟩ := h1.form
 obtain ⟨p1, c1, rfl⟩ := k1.form
 obtain ⟨p2, c2, rfl⟩ := h0.form
 go_enter Tryd.func44, Tryd.ntmps44
 go_wp2_with fail
 refine (sees_c mem (.slice p2 mem.length c2) b1 (.slice p0 s1.length c0) (.slice p1 t1.length c1) s1 t1 _ _ _ _ (h0.ext qXt) (h1.ext qXt) (k1.ext qXt)).mono ?_
 rintro e w1 ⟨rfl, xw1⟩
 have Lw1 : Ext w w1 := Ext.trans qXt xw1
 have Xw1 : Ext w w1 := Lw1
 have b10 : w1.cell? ⟨w.heap.size, 0, none⟩ = some (.int .i64 b1) := xw1.cell qCl
 have b11 : w1.cell? ⟨w.heap.size, 1, none⟩ = some (.slice p0 s1.length c0) := xw1.cell qCl
 have b12 : w1.cell? ⟨w.heap.size, 2, none⟩ = some (.slice p1 t1.length c1) := xw1.cell qCl
 have z_b1 : w.heap.size < w1.heap.size := qB b10
 have s_w1 : w.heap.size ≤ w1.heap.size := Xw1.size
 clear xw1
 cases hB2 : holdB mem b1 s1 t1
 ·
  replace hB2 := Lib.hid hB2
  go_wp2_with fail
  go_ret2
  rw [show fillA mem b1 s1 t1 x = [] by unfold fillA; rw [(show fillB mem b1 s1 t1 x = false from by unfold fillB; rw [hB2.out] <;> rfl)]; rfl, (show fillB mem b1 s1 t1 x = false from by unfold fillB; rw [hB2.out] <;> rfl)]
  exact PIntsBC.nil (Xw1.trans qXt)
 ·
  replace hB2 := Lib.hid hB2
  obtain ⟨hvw, hix, hm60, ho60⟩ := fill_in hB2.out
  replace hix := Lib.hid hix
  replace hvw := Lib.hid hvw
  go_wp2_with fail
  refine (inRange_c x 0 255 _).mono ?_
  rintro e w' ⟨rfl, rfl⟩
  cases hB3 : inB 0 255 x
  ·
   replace hB3 := Lib.hid hB3
   go_wp2_with fail
   go_ret2
   rw [show fillA mem b1 s1 t1 x = [] by unfold fillA; rw [(show fillB mem b1 s1 t1 x = false from by unfold fillB; rw [hB2.out, hB3.out] <;> rfl)]; rfl, (show fillB mem b1 s1 t1 x = false from by unfold fillB; rw [hB2.out, hB3.out] <;> rfl)]
   exact PIntsBC.nil (Xw1.trans qXt)
  ·
   replace hB3 := Lib.hid hB3
   go_wp2_with fail
   have Q7_b10 := Lib.hid b10
   have Q7_b11 := Lib.hid b11
   have Q7_b12 := Lib.hid b12
   have Q7_zb1 := z_b1
   have BL8 : Ext w1 w1 := Ext.refl _
   refine (copyIntsC_c (.slice p2 mem.length c2) mem _ _ (h0.ext (Xw1.trans qXt))).mono ?_
   rintro e w2 ⟨gr5, rr6, rfl, O4, Ggr5, Ggr5', czgr5, xw2⟩
   have Lw2 : Ext w1 w2 := Ext.trans qXt xw2
   have Xw2 : Ext w w2 := Xw1.trans Lw2
   replace b10 := Lw2.cell b10
   replace b11 := Lw2.cell b11
   replace b12 := Lw2.cell b12
   have z_b1 : w.heap.size < w2.heap.size := qB b10
   have s_w2 : w.heap.size ≤ w2.heap.size := Xw2.size
   have BL8_w2 : Ext w1 w2 := BL8.trans Lw2
   clear xw2
   go_wp2_with fail
   refine (offsets_c b1 (.slice p0 s1.length c0) (.slice p1 t1.length c1) s1 t1 _ _ _ (h1.ext (Xw2.trans qXt)) (k1.ext (Xw2.trans qXt)) (vw hvw.out).1 (vw hvw.out).2.1 (vw hvw.out).2.2.1).mono ?_
   rintro e w3 ⟨fv9, rfl, i10, -, xw3⟩
   have Lw3 : Ext w2 w3 := Ext.trans qXt xw3
   have Xw3 : Ext w w3 := Xw2.trans Lw3
   replace b10 := Lw3.cell b10
   replace b11 := Lw3.cell b11
   replace b12 := Lw3.cell b12
   have z_b1 : w.heap.size < w3.heap.size := qB b10
   replace O4 := O4.ext Lw3
   have s_w3 : w.heap.size ≤ w3.heap.size := Xw3.size
   have BL8_w3 : Ext w1 w3 := BL8_w2.trans Lw3
   clear xw3
   obtain ⟨afv9, cfv9, rfl⟩ := i10.form
   go_wp2_with fail
   skip
   go_loopw [10] (fun i wr => ∃ (k : Nat), k ≤ (offsL b1 s1 t1).length ∧ i = .int .i64 k ∧ OwnI wr (w1.heap.size) (.slice (some ⟨gr5, 0, none⟩) mem.length rr6) (fillUp mem (offsL b1 s1 t1) x k) ∧ Chg gr5 (gr5 + 1) w3 wr ∧ Ext w1 wr) (fun i _ => (offsL b1 s1 t1).length - (intOf i).toNat)
   case atStart => exact ⟨0, Nat.zero_le _, rfl, (show OwnI _ _ _ (fillUp mem (offsL b1 s1 t1) x 0) from (O4.ext qXt)), Chg.refl _ _ _, BL8_w3⟩
   case round =>
    obtain ⟨k, hk, rfl, O4n, Kr11, Er12⟩ := hrel
    have Xwr : Ext w wr := Xw1.trans Er12
    have s_wr : w.heap.size ≤ wr.heap.size := Xwr.size
    have t_wr : w3.heap.size ≤ wr.heap.size := Kr11.size
    replace b10 := Er12.cell Q7_b10.out
    replace b11 := Er12.cell Q7_b11.out
    replace b12 := Er12.cell Q7_b12.out
    have z_b1 : w.heap.size < wr.heap.size := qB b10
    clear O4
    have O4 := O4n
    clear O4n
    replace i10 := i10.chg Kr11 (by omega)
    by_cases hlt : k < (offsL b1 s1 t1).length
    ·
     have hkI : (k : Int) < (offsL b1 s1 t1).length := by omega
     obtain ⟨hi0, hi1⟩ := hix.out _ (getD_mem hlt)
     obtain ⟨j, hj⟩ : ∃ j : Nat, (offsL b1 s1 t1).getD k 0 = j := ⟨((offsL b1 s1 t1).getD k 0).toNat, by omega⟩
     rw [hj] at hi0 hi1
     replace hj := Lib.hid hj
     have hs := Lib.hid (fillUp_step (mem := mem) (v := x) hj.out)
     have hN_e15 : k < (offsL b1 s1 t1).length := (by omega)
     have hI_e15 : (k : Int) < ((offsL b1 s1 t1).length : Int) := by omega
     obtain ⟨bl13, ol14, rfl, e150⟩ := i10.at k (by omega)
     obtain ⟨v16, hv16⟩ : ∃ v, (offsL b1 s1 t1).getD k 0 = v := ⟨_, rfl⟩
     rw [hv16] at e150
     replace hv16 := Lib.hid hv16
     have y_e15 : bl13 < wr.heap.size := qB e150
     have z_e15 := y_e15
     obtain rfl : v16 = (j : Int) := by rw [← hv16.out]; exact hj.out
     have A17 := O4.cell j (by rw [fillUp_len]; omega)
     obtain ⟨A17a, A17b⟩ := A17
     go_wp2_with fail
     clear e150 z_e15
     generalize hW2 : (wr.setCell ⟨gr5, j, none⟩ (.int .i64 x)) = w4 at *
     have Kw4 : Chg (gr5) (gr5 + 1) wr w4 := by subst hW2; exact qCh
     have Xw4 : Ext w w4 := by subst hW2; exact qXt
     have BL8_w4 : Ext w1 w4 := by subst hW2; exact qXt
     have Kr11_w4 : Chg gr5 (gr5 + 1) w3 w4 := Chg.trans Kr11 Kw4
     replace b10 := BL8_w4.cell Q7_b10.out
     replace b11 := BL8_w4.cell Q7_b11.out
     replace b12 := BL8_w4.cell Q7_b12.out
     have n_O4 := O4.set j (x) (by first | omega | (simp; omega) | (rw [putUp_len]; simp; omega) | (rw [addUp_len]; omega) | (rw [fillUp_len]; omega))
     rw [hW2] at n_O4
     replace O4 := n_O4
     clear n_O4
     replace i10 := i10.chg Kw4 (by omega)
     clear Kw4
     have z_b1 : w.heap.size < w4.heap.size := qB b10
     have s_w4 : w.heap.size ≤ w4.heap.size := Xw4.size
     clear hW2
     clear A17a A17b
     go_roundw
     case rel => exact ⟨k + 1, by omega, by go_num, (by rw [hs.out]; exact O4.ext qXt), Kr11_w4.ext qXt, BL8_w4.trans qXt⟩
     case measure => simp [intOf]; omega
    ·
     have hkI : ¬ (k : Int) < (offsL b1 s1 t1).length := by omega
     go_wp2_with fail
     go_ret2
     rw [show fillA mem b1 s1 t1 x = fillUp mem (offsL b1 s1 t1) x k by unfold fillA; rw [(show fillB mem b1 s1 t1 x = true from by unfold fillB; rw [hB2.out, hB3.out] <;> rfl), if_pos rfl, show k = (offsL b1 s1 t1).length by omega], (show fillB mem b1 s1 t1 x = true from by unfold fillB; rw [hB2.out, hB3.out] <;> rfl)]
     exact ⟨_, rfl, (O4.ints (by rw [fillUp_len]; omega)).lower (by omega), (O4.lower (by omega)).z, CapZ.row czgr5 (by rw [fillUp_len]) rfl, Xwr⟩

set_option maxHeartbeats 3200000 in
theorem putZ0 (mem vs : List Int) (a0 a2 : Value) (b1 : Int) (u1 v1 : Value) (s1 t1 : List Int) (w : World) (l0 l1 m1 l2 : Nat) (h0 : Ints w l0 a0 mem) (h1 : Ints w l1 u1 s1) (k1 : Ints w m1 v1 t1) (h2 : Ints w l2 a2 vs) (hml : mem.length ≤ 60) (ha : viewB b1 s1 t1 = true) (hix : ∀ x ∈ offsL b1 s1 t1, 0 ≤ x ∧ x < mem.length) (hvl : vs.length = (offsL b1 s1 t1).length) (hme : mem = []) :
  Calls Tryd.prog 59 #[a0, .agg #[.int .i64 b1, u1, v1], a2] w (PIntsZ w (putL mem (offsL b1 s1 t1) vs)) := by
 obtain ⟨p0, c0, rfl⟩ := h1.form
 obtain ⟨p1, c1, rfl⟩ := k1.form
 obtain ⟨p2, c2, rfl⟩ := h0.form
 obtain ⟨p3, c3, rfl⟩ := h2.form
 have hz : Hid ((offsL b1 s1 t1).length = 0) := Lib.hid (by
  cases hl : offsL b1 s1 t1 with
  | nil => rfl
  | cons x r => have := hix x (by rw [hl]; simp); subst hme; simp at this; omega)
 have hvw := Lib.hid ha
 clear ha hix hvl
 replace hme := Lib.hid hme
 go_enter Tryd.func59, Tryd.ntmps59
 go_upto_region 1 with fail
 generalize hW4 : w.alloc (.cells #[.int .i64 b1, .slice p0 s1.length c0, .slice p1 t1.length c1] 54) = w1 at *
 have Lw1 : Ext w w1 := by subst hW4; exact qXt
 have Xw1 : Ext w w1 := by subst hW4; exact Lw1
 have b10 : w1.cell? ⟨w.heap.size, 0, none⟩ = some (.int .i64 b1) := by subst hW4; exact qCl
 have b11 : w1.cell? ⟨w.heap.size, 1, none⟩ = some (.slice p0 s1.length c0) := by subst hW4; exact qCl
 have b12 : w1.cell? ⟨w.heap.size, 2, none⟩ = some (.slice p1 t1.length c1) := by subst hW4; exact qCl
 have z_b1 : w.heap.size < w1.heap.size := qB b10
 have s_w1 : w.heap.size ≤ w1.heap.size := Xw1.size
 clear hW4
 go_wp2_with fail
 have Q5_b10 := Lib.hid b10
 have Q5_b11 := Lib.hid b11
 have Q5_b12 := Lib.hid b12
 have Q5_zb1 := z_b1
 have BL6 : Ext w1 w1 := Ext.refl _
 refine (copyIntsC_c (.slice p2 mem.length c2) mem _ _ (h0.ext (Xw1.trans qXt))).mono ?_
 rintro e w2 ⟨gr3, rr4, rfl, O2, Ggr3, Ggr3', czgr3, xw2⟩
 have Lw2 : Ext w1 w2 := Ext.trans qXt xw2
 have Xw2 : Ext w w2 := Xw1.trans Lw2
 replace b10 := Lw2.cell b10
 replace b11 := Lw2.cell b11
 replace b12 := Lw2.cell b12
 have z_b1 : w.heap.size < w2.heap.size := qB b10
 have s_w2 : w.heap.size ≤ w2.heap.size := Xw2.size
 have BL6_w2 : Ext w1 w2 := BL6.trans Lw2
 clear xw2
 go_wp2_with fail
 refine (offsets_c b1 (.slice p0 s1.length c0) (.slice p1 t1.length c1) s1 t1 _ _ _ (h1.ext (Xw2.trans qXt)) (k1.ext (Xw2.trans qXt)) (vw hvw.out).1 (vw hvw.out).2.1 (vw hvw.out).2.2.1).mono ?_
 rintro e w3 ⟨fv7, rfl, i8, -, xw3⟩
 have Lw3 : Ext w2 w3 := Ext.trans qXt xw3
 have Xw3 : Ext w w3 := Xw2.trans Lw3
 replace b10 := Lw3.cell b10
 replace b11 := Lw3.cell b11
 replace b12 := Lw3.cell b12
 have z_b1 : w.heap.size < w3.heap.size := qB b10
 replace O2 := O2.ext Lw3
 have s_w3 : w.heap.size ≤ w3.heap.size := Xw3.size
 have BL6_w3 : Ext w1 w3 := BL6_w2.trans Lw3
 clear xw3
 obtain ⟨afv7, cfv7, rfl⟩ := i8.form
 go_wp2_with fail
 skip
 go_loopw [9] (fun i wr => i = .int .i64 0 ∧ Ext w3 wr) (fun _ _ => 0)
 case atStart => exact ⟨rfl, qXt⟩
 case round =>
  obtain ⟨rfl, Lwr⟩ := hrel
  have Xwr : Ext w wr := Xw3.trans Lwr
  have s_wr : w.heap.size ≤ wr.heap.size := Xwr.size
  have t_wr : w3.heap.size ≤ wr.heap.size := Lwr.size
  replace b10 := Lwr.cell b10
  replace b11 := Lwr.cell b11
  replace b12 := Lwr.cell b12
  have z_b1 : w.heap.size < wr.heap.size := qB b10
  replace O2 := O2.ext Lwr
  replace i8 := i8.ext Lwr
  have BL6_wr : Ext w1 wr := BL6_w3.trans Lwr
  have Bwr : Ext w3 wr := Lwr
  skip
  ·
   have hkI : ¬ (0 : Int) < (offsL b1 s1 t1).length := by have := hz.out; omega
   go_wp2_with fail
   go_ret
   rw [show putL mem (offsL b1 s1 t1) vs = mem by unfold putL; rw [hz.out]; rfl]
   exact ⟨_, rfl, (O2.ints (by omega)).lower (by omega), (O2.lower (by omega)).z, CapZ.row czgr3 rfl rfl, (Xwr.trans qXt)⟩

set_option maxHeartbeats 1600000 in
theorem putZ_c (mem vs : List Int) (a0 a2 : Value) (b1 : Int) (u1 v1 : Value) (s1 t1 : List Int) (w : World) (l0 l1 m1 l2 : Nat) (h0 : Ints w l0 a0 mem) (h1 : Ints w l1 u1 s1) (k1 : Ints w m1 v1 t1) (h2 : Ints w l2 a2 vs) (hml : mem.length ≤ 60) (ha : viewB b1 s1 t1 = true) (hix : ∀ x ∈ offsL b1 s1 t1, 0 ≤ x ∧ x < mem.length) (hvl : vs.length = (offsL b1 s1 t1).length) :
  Calls Tryd.prog 59 #[a0, .agg #[.int .i64 b1, u1, v1], a2] w (PIntsZ w (putL mem (offsL b1 s1 t1) vs)) := by
 by_cases hme : mem = []
 ·
  exact putZ0 mem vs a0 a2 b1 u1 v1 s1 t1 w l0 l1 m1 l2 h0 h1 k1 h2 hml ha hix hvl hme
 ·
  refine (put_c mem vs a0 a2 b1 u1 v1 s1 t1 w l0 l1 m1 l2 h0 h1 k1 h2 hml ha hix hvl).mono fun e w' h => ?_
  obtain ⟨v, h1, h2, h3, h4⟩ := h
  exact ⟨v, h1, h2, h3, Lib.hid (fun h => absurd (List.eq_nil_of_length_eq_zero (by rw [← putUp_len mem (offsL b1 s1 t1) vs (offsL b1 s1 t1).length]; exact congrArg List.length h)) hme), h4⟩

set_option maxHeartbeats 3200000 in
theorem specCopyView_c (mem : List Int) (a0 : Value) (b1 : Int) (u1 v1 : Value) (s1 t1 : List Int) (b2 : Int) (u2 v2 : Value) (s2 t2 : List Int) (w : World) (l0 : Nat) (h0 : Ints w l0 a0 mem) (l1 m1 : Nat) (h1 : Ints w l1 u1 s1) (k1 : Ints w m1 v1 t1) (l2 m2 : Nat) (h2 : Ints w l2 u2 s2) (k2 : Ints w m2 v2 t2) :
  Calls Tryd.prog 45 #[a0, .agg #[.int .i64 b1, u1, v1], .agg #[.int .i64 b2, u2, v2]] w (PIntsBC w (copyA mem b1 s1 t1 b2 s2 t2) (pairB mem b1 s1 t1 b2 s2 t2)) := by
 obtain ⟨p0, c0, rfl⟩ := h1.form
 obtain ⟨p1, c1, rfl⟩ := k1.form
 obtain ⟨p2, c2, rfl⟩ := h0.form
 obtain ⟨p4, c4, rfl⟩ := h2.form
 obtain ⟨p5, c5, rfl⟩ := k2.form
 go_enter Tryd.func45, Tryd.ntmps45
 go_wp2_with fail
 refine (pair_c mem (.slice p2 mem.length c2) b1 (.slice p0 s1.length c0) (.slice p1 t1.length c1) s1 t1 b2 (.slice p4 s2.length c4) (.slice p5 t2.length c5) s2 t2 _ _ _ _ _ _ (h0.ext qXt) (h1.ext qXt) (k1.ext qXt) (h2.ext qXt) (k2.ext qXt)).mono ?_
 rintro e w1 ⟨rfl, xw1⟩
 have Lw1 : Ext w w1 := Ext.trans qXt xw1
 have Xw1 : Ext w w1 := Lw1
 have b10 : w1.cell? ⟨w.heap.size, 0, none⟩ = some (.int .i64 b1) := xw1.cell qCl
 have b11 : w1.cell? ⟨w.heap.size, 1, none⟩ = some (.slice p0 s1.length c0) := xw1.cell qCl
 have b12 : w1.cell? ⟨w.heap.size, 2, none⟩ = some (.slice p1 t1.length c1) := xw1.cell qCl
 have b20 : w1.cell? ⟨w.heap.size + 1, 0, none⟩ = some (.int .i64 b2) := xw1.cell qCl
 have b21 : w1.cell? ⟨w.heap.size + 1, 1, none⟩ = some (.slice p4 s2.length c4) := xw1.cell qCl
 have b22 : w1.cell? ⟨w.heap.size + 1, 2, none⟩ = some (.slice p5 t2.length c5) := xw1.cell qCl
 have z_b1 : w.heap.size < w1.heap.size := qB b10
 have z_b2 : w.heap.size + 1 < w1.heap.size := qB b20
 have s_w1 : w.heap.size ≤ w1.heap.size := Xw1.size
 clear xw1
 cases hB3 : pairB mem b1 s1 t1 b2 s2 t2
 ·
  replace hB3 := Lib.hid hB3
  go_wp2_with fail
  go_ret2
  rw [show copyA mem b1 s1 t1 b2 s2 t2 = [] by unfold copyA; rw [hB3.out]; rfl, hB3.out]
  exact PIntsBC.nil (Xw1.trans qXt)
 ·
  replace hB3 := Lib.hid hB3
  obtain ⟨hp1, hp2, hp3⟩ := pair_in hB3.out
  obtain ⟨hf1, hf2, hf3, hf4⟩ := fill_in hp1
  obtain ⟨hg1, hg2, hg3, hg4⟩ := fill_in hp2
  have hll : (loadL mem b2 s2 t2).length ≤ 60 := by omega
  replace hp1 := Lib.hid hp1
  replace hp2 := Lib.hid hp2
  replace hp3 := Lib.hid hp3
  replace hf1 := Lib.hid hf1
  replace hf2 := Lib.hid hf2
  replace hg1 := Lib.hid hg1
  clear hg2
  go_wp2_with fail
  refine wp_region_tail (S := fun w' => w'.cell? ⟨w.heap.size, 0, none⟩ = some (.int .i64 b1) ∧ w'.cell? ⟨w.heap.size, 1, none⟩ = some (.slice p0 s1.length c0) ∧ w'.cell? ⟨w.heap.size, 2, none⟩ = some (.slice p1 t1.length c1) ∧ w'.cell? ⟨w.heap.size + 1, 0, none⟩ = some (.int .i64 b2) ∧ w'.cell? ⟨w.heap.size + 1, 1, none⟩ = some (.slice p4 s2.length c4) ∧ w'.cell? ⟨w.heap.size + 1, 2, none⟩ = some (.slice p5 t2.length c5)) (fun i => decide (8 ≤ i)) qKr ⟨b10, b11, b12, b20, b21, b22⟩ (fun hHeld => ?_)
  refine qTk (v := ?_) 0 rfl (.inl ⟨by rfl, ?_⟩) ?_
  rotate_left
  ·
   (intro w hSw; (try dsimp only at hSw); go_simp; try with_reducible rfl)
  try simp only [Act.put, qa, qb, qc, qD, qE, qF]
  refine qTk (v := ?_) 1 rfl (.inl ⟨by rfl, ?_⟩) ?_
  rotate_left
  ·
   (intro w hSw; (try dsimp only at hSw); go_simp; try with_reducible rfl)
  try simp only [Act.put, qa, qb, qc, qD, qE, qF]
  refine qTk (v := ?_) 2 rfl (.inl ⟨by rfl, ?_⟩) ?_
  rotate_left
  ·
   (intro w hSw; (try dsimp only at hSw); go_simp; try with_reducible rfl)
  try simp only [Act.put, qa, qb, qc, qD, qE, qF]
  refine qTk (v := ?_) 3 rfl (.inl ⟨by rfl, ?_⟩) ?_
  rotate_left
  ·
   (intro w hSw; (try dsimp only at hSw); go_simp; try with_reducible rfl)
  try simp only [Act.put, qa, qb, qc, qD, qE, qF]
  refine wpTail_one (i := 4) qKr rfl rfl (fun K hK => ?_)
  try simp only [Act.put, qa, qb, qc, qD, qE, qF]
  go_simp
  refine (load_c mem (.slice p2 mem.length c2) b2 (.slice p4 s2.length c4) (.slice p5 t2.length c5) s2 t2 _ _ _ _ (h0.ext (Xw1.trans qXt)) (h2.ext (Xw1.trans qXt)) (k2.ext (Xw1.trans qXt)) hp2.out).mono ?_
  rintro e w2 ⟨fv4, rfl, i5, i5z, xw2⟩
  have Lw2 : Ext w1 w2 := Ext.trans qXt xw2
  have Xw2 : Ext w w2 := Xw1.trans Lw2
  replace b10 := Lw2.cell b10
  replace b11 := Lw2.cell b11
  replace b12 := Lw2.cell b12
  replace b20 := Lw2.cell b20
  replace b21 := Lw2.cell b21
  replace b22 := Lw2.cell b22
  have z_b1 : w.heap.size < w2.heap.size := qB b10
  have z_b2 : w.heap.size + 1 < w2.heap.size := qB b20
  have s_w2 : w.heap.size ≤ w2.heap.size := Xw2.size
  clear xw2
  try simp only [World.size_alloc, World.size_drew] at i5
  try simp only [World.size_alloc, World.size_drew] at i5z
  obtain ⟨afv4, cfv4, rfl⟩ := i5.form
  refine hK.out _ _ ⟨b10, b11, b12, b20, b21, b22⟩ (fun hHeld => ?_)
  clear hK K
  try simp only [Act.put, qa, qb, qc, qD, qE, qF]
  refine wpTail_one (i := 5) qKr rfl rfl (fun K hK => ?_)
  try simp only [Act.put, qa, qb, qc, qD, qE, qF]
  go_simp
  refine (putZ_c mem (loadL mem b2 s2 t2) (.slice p2 mem.length c2) (.slice afv4 ((loadL mem b2 s2 t2).length) cfv4) b1 (.slice p0 s1.length c0) (.slice p1 t1.length c1) s1 t1 _ _ _ _ _ (h0.ext (Xw2.trans qXt)) (h1.ext (Xw2.trans qXt)) (k1.ext (Xw2.trans qXt)) (i5.ext qXt) hf3 hf1.out hf2.out hp3.out).mono ?_
  rintro e w3 ⟨fv6, rfl, i7, i7z, czfv6, xw3⟩
  have Lw3 : Ext w2 w3 := Ext.trans qXt xw3
  have Xw3 : Ext w w3 := Xw2.trans Lw3
  replace b10 := Lw3.cell b10
  replace b11 := Lw3.cell b11
  replace b12 := Lw3.cell b12
  replace b20 := Lw3.cell b20
  replace b21 := Lw3.cell b21
  replace b22 := Lw3.cell b22
  have z_b1 : w.heap.size < w3.heap.size := qB b10
  have z_b2 : w.heap.size + 1 < w3.heap.size := qB b20
  replace i5 := i5.ext Lw3
  replace i5z := i5z.ext Lw3
  have s_w3 : w.heap.size ≤ w3.heap.size := Xw3.size
  clear xw3
  try simp only [World.size_alloc, World.size_drew] at i7
  try simp only [World.size_alloc, World.size_drew] at i7z
  obtain ⟨afv6, cfv6, rfl⟩ := i7.form
  refine hK.out _ _ ⟨b10, b11, b12, b20, b21, b22⟩ (fun hHeld => ?_)
  clear hK K
  try simp only [Act.put, qa, qb, qc, qD, qE, qF]
  refine qTk (v := ?_) 6 rfl (.inl ⟨by rfl, ?_⟩) ?_
  rotate_left
  ·
   (intro w hSw; (try dsimp only at hSw); go_simp; try with_reducible rfl)
  try simp only [Act.put, qa, qb, qc, qD, qE, qF]
  refine qTk (v := ?_) 7 rfl (.inl ⟨by rfl, ?_⟩) ?_
  rotate_left
  ·
   (intro w hSw; (try dsimp only at hSw); go_simp; try with_reducible rfl)
  try simp only [Act.put, qa, qb, qc, qD, qE, qF]
  refine wpTail_done qKr ?_ _
  clear hHeld 
  go_wp2_with fail
  go_ret2
  rw [show copyA mem b1 s1 t1 b2 s2 t2 = putL mem (offsL b1 s1 t1) (loadL mem b2 s2 t2) by unfold copyA; rw [hB3.out]; rfl, hB3.out]
  exact ⟨_, rfl, i7.lower (by omega), i7z.lower (by omega), czfv6, Xw3⟩


end Go.Proofs.YtgklaobfikbiiaaDoor

/- Answers that are buffers: fill, copy, part; plain words and laws. No condition. -/
namespace Go.Proofs.YtgklaobfikbiiaaDoor
open Go.RowKit
set_option linter.unusedVariables false
set_option maxRecDepth 100000

/-- FillExport -/
def filA (cells : List Int) (es : List Exp) (i v : Int) : BBool :=
  if (bufB cells es && opB es i) && inB 0 255 v then (fillA cells (expAt es i.toNat).b (expAt es i.toNat).s (expAt es i.toNat).t v, es, true) else noBuf
/-- CopyExport -/
def cpyA (cells : List Int) (es : List Exp) (i j : Int) : BBool :=
  if (bufB cells es && (opB es i && opB es j)) && pairB cells (expAt es i.toNat).b (expAt es i.toNat).s (expAt es i.toNat).t (expAt es j.toNat).b (expAt es j.toNat).s (expAt es j.toNat).t then
    (copyA cells (expAt es i.toNat).b (expAt es i.toNat).s (expAt es i.toNat).t (expAt es j.toNat).b (expAt es j.toNat).s (expAt es j.toNat).t, es, true) else noBuf
/-- ExportPart -/
def parA (cells : List Int) (es : List Exp) (i d F T B : Int) (hf ht : Bool) : BBool :=
  if ((bufB cells es && opB es i) && decide (es.length < 8)) && (sliceV (expAt es i.toNat).b (expAt es i.toNat).s (expAt es i.toNat).t d F T B hf ht).2.2.2 then
    (cells, es ++ [⟨i, (sliceV (expAt es i.toNat).b (expAt es i.toNat).s (expAt es i.toNat).t d F T B hf ht).1, (sliceV (expAt es i.toNat).b (expAt es i.toNat).s (expAt es i.toNat).t d F T B hf ht).2.1, (sliceV (expAt es i.toNat).b (expAt es i.toNat).s (expAt es i.toNat).t d F T B hf ht).2.2.1, true⟩], true) else noBuf
end Go.Proofs.YtgklaobfikbiiaaDoor

/- Walks: FillExport of both. -/
namespace Go.Proofs.YtgklaobfikbiiaaDoor
open Go.RowKit
set_option linter.unusedVariables false
set_option maxRecDepth 100000

set_option maxHeartbeats 3200000 in
theorem specFillExport_c (cells : List Int) (es : List Exp) (cv ev : Value) (i x : Int) (w : World) (l1 l2 : Nat) (h1 : Ints w l1 cv cells) (h2 : Exps w l2 ev es) :
  Calls Tryd.prog 32 #[.agg #[cv, ev], .int .i64 i, .int .i64 x] w (PBX w (filA cells es i x)) := by
 obtain ⟨p0, c0, rfl⟩ := h1.form
 obtain ⟨p1, c1, rfl⟩ := h2.form
 have he1 := h2.len
 have hc1 := h1.len
 go_enter Tryd.func32, Tryd.ntmps32
 go_wp2_with fail
 refine (validBuffer_c cells es (.slice p0 cells.length c0) (.slice p1 es.length c1) _ _ _ (h1.ext qXt) (h2.ext qXt)).mono ?_
 rintro e w1 ⟨rfl, xw1⟩
 have Lw1 : Ext w w1 := Ext.trans qXt xw1
 have Xw1 : Ext w w1 := Lw1
 have b10 : w1.cell? ⟨w.heap.size, 0, none⟩ = some (.slice p0 cells.length c0) := xw1.cell qCl
 have b11 : w1.cell? ⟨w.heap.size, 1, none⟩ = some (.slice p1 es.length c1) := xw1.cell qCl
 have b20 : w1.cell? ⟨w.heap.size + 1, 0, none⟩ = some (.slice none 0 0) := xw1.cell qCl
 have b21 : w1.cell? ⟨w.heap.size + 1, 1, none⟩ = some (.slice none 0 0) := xw1.cell qCl
 have f_b20 : w1.frozen? ⟨w.heap.size + 1, 0, none⟩ = false := xw1.frz (by simp <;> omega) qFz
 have f_b21 : w1.frozen? ⟨w.heap.size + 1, 1, none⟩ = false := xw1.frz (by simp <;> omega) qFz
 have z_b1 : w.heap.size < w1.heap.size := qB b10
 have z_b2 : w.heap.size + 1 < w1.heap.size := qB b20
 have s_w1 : w.heap.size ≤ w1.heap.size := Xw1.size
 clear xw1
 cases hB3 : bufB cells es
 ·
  replace hB3 := Lib.hid hB3
  go_wp2_with fail
  generalize hW5 : ((w1.setCell ⟨w.heap.size + 1, 0, none⟩ (.slice none 0 0)).setCell ⟨w.heap.size + 1, 1, none⟩ (.slice none 0 0)) = w2 at *
  have Kw2 : Chg (w.heap.size + 1) (w.heap.size + 1 + 1) w1 w2 := by subst hW5; exact qCh
  have Xw2 : Ext w w2 := by subst hW5; exact qXt
  replace b10 := Kw2.cell (by omega) b10
  replace b11 := Kw2.cell (by omega) b11
  replace b20 : w2.cell? ⟨w.heap.size + 1, 0, none⟩ = some (.slice none 0 0) := by subst hW5; go_simp
  replace f_b20 : w2.frozen? ⟨w.heap.size + 1, 0, none⟩ = false := by subst hW5; first | (simp only [World.frozen?_setCell]; with_reducible assumption) | go_simp
  replace b21 : w2.cell? ⟨w.heap.size + 1, 1, none⟩ = some (.slice none 0 0) := by subst hW5; go_simp
  replace f_b21 : w2.frozen? ⟨w.heap.size + 1, 1, none⟩ = false := by subst hW5; first | (simp only [World.frozen?_setCell]; with_reducible assumption) | go_simp
  clear Kw2
  have z_b1 : w.heap.size < w2.heap.size := qB b10
  have z_b2 : w.heap.size + 1 < w2.heap.size := qB b20
  have s_w2 : w.heap.size ≤ w2.heap.size := Xw2.size
  clear hW5
  refine bodyPost_ret (v := .tuple #[.agg #[.slice none 0 0, .slice none 0 0], .bool false]) (by simp only [results, Tryd.results32]; go_simp) rfl ?_
  exact PBX.no (by unfold filA; rw [(show (bufB cells es && opB es i) = false by rw [hB3.out]; rfl), Bool.false_and]; rfl) (Xw2.trans qXt)
 ·
  replace hB3 := Lib.hid hB3
  have hbb : Hid (bufB cells es = true) := Lib.hid hB3.out
  go_wp2_with fail
  refine (specIsOpen_c cells es (.slice p0 cells.length c0) (.slice p1 es.length c1) i _ _ _ (h1.ext (Xw1.trans qXt)) (h2.ext (Xw1.trans qXt))).mono ?_
  rintro e w2 ⟨rfl, xw2⟩
  have Lw2 : Ext w1 w2 := Ext.trans qXt xw2
  have Xw2 : Ext w w2 := Xw1.trans Lw2
  replace b10 := Lw2.cell b10
  replace b11 := Lw2.cell b11
  replace b20 := Lw2.cell b20
  replace b21 := Lw2.cell b21
  replace f_b20 := Lw2.frz z_b2 f_b20
  replace f_b21 := Lw2.frz z_b2 f_b21
  have z_b1 : w.heap.size < w2.heap.size := qB b10
  have z_b2 : w.heap.size + 1 < w2.heap.size := qB b20
  have s_w2 : w.heap.size ≤ w2.heap.size := Xw2.size
  clear xw2
  cases hB4 : opB es i
  ·
   replace hB4 := Lib.hid hB4
   go_wp2_with fail
   generalize hW6 : ((w2.setCell ⟨w.heap.size + 1, 0, none⟩ (.slice none 0 0)).setCell ⟨w.heap.size + 1, 1, none⟩ (.slice none 0 0)) = w3 at *
   have Kw3 : Chg (w.heap.size + 1) (w.heap.size + 1 + 1) w2 w3 := by subst hW6; exact qCh
   have Xw3 : Ext w w3 := by subst hW6; exact qXt
   replace b10 := Kw3.cell (by omega) b10
   replace b11 := Kw3.cell (by omega) b11
   replace b20 : w3.cell? ⟨w.heap.size + 1, 0, none⟩ = some (.slice none 0 0) := by subst hW6; go_simp
   replace f_b20 : w3.frozen? ⟨w.heap.size + 1, 0, none⟩ = false := by subst hW6; first | (simp only [World.frozen?_setCell]; with_reducible assumption) | go_simp
   replace b21 : w3.cell? ⟨w.heap.size + 1, 1, none⟩ = some (.slice none 0 0) := by subst hW6; go_simp
   replace f_b21 : w3.frozen? ⟨w.heap.size + 1, 1, none⟩ = false := by subst hW6; first | (simp only [World.frozen?_setCell]; with_reducible assumption) | go_simp
   clear Kw3
   have z_b1 : w.heap.size < w3.heap.size := qB b10
   have z_b2 : w.heap.size + 1 < w3.heap.size := qB b20
   have s_w3 : w.heap.size ≤ w3.heap.size := Xw3.size
   clear hW6
   refine bodyPost_ret (v := .tuple #[.agg #[.slice none 0 0, .slice none 0 0], .bool false]) (by simp only [results, Tryd.results32]; go_simp) rfl ?_
   exact PBX.no (by unfold filA; rw [(show (bufB cells es && opB es i) = false by rw [hB4.out, Bool.and_false]), Bool.false_and]; rfl) (Xw3.trans qXt)
  ·
   replace hB4 := Lib.hid hB4
   have hop : Hid (opB es i = true) := Lib.hid hB4.out
   obtain ⟨hi0, hi1, hi2⟩ := opB_in hop.out
   obtain ⟨k, rfl⟩ : ∃ k : Nat, i = k := ⟨i.toNat, by omega⟩
   have hlt : k < es.length := by omega
   have hesne : Hid (es ≠ []) := Lib.hid (fun h => by rw [h] at hlt; exact absurd hlt (by simp))
   replace hi2 := Lib.hid hi2
   go_wp2_with fail
   refine (inRange_c x 0 255 _).mono ?_
   rintro e w' ⟨rfl, rfl⟩
   cases hB5 : inB 0 255 x
   ·
    replace hB5 := Lib.hid hB5
    go_wp2_with fail
    generalize hW7 : ((w2.setCell ⟨w.heap.size + 1, 0, none⟩ (.slice none 0 0)).setCell ⟨w.heap.size + 1, 1, none⟩ (.slice none 0 0)) = w3 at *
    have Kw3 : Chg (w.heap.size + 1) (w.heap.size + 1 + 1) w2 w3 := by subst hW7; exact qCh
    have Xw3 : Ext w w3 := by subst hW7; exact qXt
    replace b10 := Kw3.cell (by omega) b10
    replace b11 := Kw3.cell (by omega) b11
    replace b20 : w3.cell? ⟨w.heap.size + 1, 0, none⟩ = some (.slice none 0 0) := by subst hW7; go_simp
    replace f_b20 : w3.frozen? ⟨w.heap.size + 1, 0, none⟩ = false := by subst hW7; first | (simp only [World.frozen?_setCell]; with_reducible assumption) | go_simp
    replace b21 : w3.cell? ⟨w.heap.size + 1, 1, none⟩ = some (.slice none 0 0) := by subst hW7; go_simp
    replace f_b21 : w3.frozen? ⟨w.heap.size + 1, 1, none⟩ = false := by subst hW7; first | (simp only [World.frozen?_setCell]; with_reducible assumption) | go_simp
    clear Kw3
    have z_b1 : w.heap.size < w3.heap.size := qB b10
    have z_b2 : w.heap.size + 1 < w3.heap.size := qB b20
    have s_w3 : w.heap.size ≤ w3.heap.size := Xw3.size
    clear hW7
    refine bodyPost_ret (v := .tuple #[.agg #[.slice none 0 0, .slice none 0 0], .bool false]) (by simp only [results, Tryd.results32]; go_simp) rfl ?_
    exact PBX.no (by unfold filA; rw [hB5.out, Bool.and_false]; rfl) (Xw3.trans qXt)
   ·
    replace hB5 := Lib.hid hB5
    go_wp2_with fail
    have Q9_b10 := Lib.hid b10
    have Q9_b11 := Lib.hid b11
    have Q9_zb1 := z_b1
    have Q9_b20 := Lib.hid b20
    have Q9_f_b20 := Lib.hid f_b20
    have Q9_b21 := Lib.hid b21
    have Q9_f_b21 := Lib.hid f_b21
    have Q9_zb2 := z_b2
    have BL10 : Ext w2 w2 := Ext.refl _
    refine (specCopyBuffer_c cells es (.slice p0 cells.length c0) (.slice p1 es.length c1) _ _ _ (h1.ext (Xw2.trans qXt)) (h2.ext (Xw2.trans qXt))).mono ?_
    rintro e w3 ⟨cvfb7, evfb7, R8, rfl, bf6, xw3⟩
    have Lw3 : Ext w2 w3 := Ext.trans qXt xw3
    have Xw3 : Ext w w3 := Xw2.trans Lw3
    replace b10 := Lw3.cell b10
    replace b11 := Lw3.cell b11
    replace b20 := Lw3.cell b20
    replace b21 := Lw3.cell b21
    replace f_b20 := Lw3.frz z_b2 f_b20
    replace f_b21 := Lw3.frz z_b2 f_b21
    have z_b1 : w.heap.size < w3.heap.size := qB b10
    have z_b2 : w.heap.size + 1 < w3.heap.size := qB b20
    have s_w3 : w.heap.size ≤ w3.heap.size := Xw3.size
    have BL10_w3 : Ext w2 w3 := BL10.trans Lw3
    clear xw3
    replace bf6 := bf6.lower (lo' := w2.heap.size) qSo
    obtain ⟨afb7, cfb7, rfl⟩ := bf6.ints.form
    obtain ⟨efb7, dfb7, rfl⟩ := bf6.exps.form
    have q_bf6 := Lib.hid bf6.at
    have Q11_b10 := Lib.hid b10
    have Q11_b11 := Lib.hid b11
    have Q11_zb1 := z_b1
    have Q11_b20 := Lib.hid b20
    have Q11_f_b20 := Lib.hid f_b20
    have Q11_b21 := Lib.hid b21
    have Q11_f_b21 := Lib.hid f_b21
    have Q11_zb2 := z_b2
    have Q11_bf6 := Lib.hid bf6
    have BL12 : Ext w3 w3 := Ext.refl _
    go_wp2_with fail
    have zn_BL10_w4 := (BL10_w3).size
    have zn_BL12_w4 := (BL12).size
    generalize hW8 : w3.alloc (.cells #[.slice afb7 cells.length cfb7, .slice efb7 es.length dfb7] 34) = w4 at *
    have Lw4 : Ext w3 w4 := by subst hW8; exact qXt
    have Xw4 : Ext w w4 := Xw3.trans Lw4
    replace b10 := Lw4.cell b10
    replace b11 := Lw4.cell b11
    replace b20 := Lw4.cell b20
    replace b21 := Lw4.cell b21
    replace f_b20 := Lw4.frz z_b2 f_b20
    replace f_b21 := Lw4.frz z_b2 f_b21
    have b130 : w4.cell? ⟨w3.heap.size, 0, none⟩ = some (.slice afb7 cells.length cfb7) := by subst hW8; exact qCl
    have b131 : w4.cell? ⟨w3.heap.size, 1, none⟩ = some (.slice efb7 es.length dfb7) := by subst hW8; exact qCl
    have f_b130 : w4.frozen? ⟨w3.heap.size, 0, none⟩ = false := by subst hW8; exact qFz
    have f_b131 : w4.frozen? ⟨w3.heap.size, 1, none⟩ = false := by subst hW8; exact qFz
    have z_b1 : w.heap.size < w4.heap.size := qB b10
    have z_b2 : w.heap.size + 1 < w4.heap.size := qB b20
    have z_b13 : w3.heap.size < w4.heap.size := qB b130
    replace bf6 := bf6.ext Lw4
    have s_w4 : w.heap.size ≤ w4.heap.size := Xw4.size
    have BL10_w4 : Ext w2 w4 := BL10_w3.trans Lw4
    have BL12_w4 : Ext w3 w4 := BL12.trans Lw4
    clear hW8
    have hN_x14 : k < es.length := hlt
    have hI_x14 : (k : Int) < (es.length : Int) := by omega
    obtain ⟨bl27, ol28, u21, c22, u23, c24, rfl, x140, x141, x142, x143, x144, i25, i26⟩ := h2.at k hN_x14
    obtain ⟨X20, hX20⟩ : ∃ x, expAt es k = x := ⟨_, rfl⟩
    rw [hX20] at x140 x141 x142 x143 x144 i25 i26
    obtain ⟨P15, B16, S17, T18, O19⟩ := X20
    dsimp only at x140 x141 x142 x143 x144 i25 i26
    replace hX20 := Lib.hid hX20
    have hLS17 := i25.len
    have hLT18 := i26.len
    have y_x14 : bl27 < w.heap.size := qB x140
    replace x140 := Xw4.cell x140
    replace x141 := Xw4.cell x141
    replace x142 := Xw4.cell x142
    replace x143 := Xw4.cell x143
    replace x144 := Xw4.cell x144
    have z_x14 : bl27 < w4.heap.size := qB x140
    have hh7 : Hid (holdB cells B16 S17 T18 = true) := Lib.hid (by have h7 := open_holds hbb.out hop.out; rw [Int.toNat_natCast, hX20.out] at h7; exact h7)
    have hfe : Hid (fillB cells B16 S17 T18 x = inB 0 255 x) := Lib.hid (by unfold fillB; rw [hh7.out, Bool.true_and])
    have hc60 := (bufB_in hbb.out).2.1
    have hfb : Hid (fillB cells B16 S17 T18 x = true) := Lib.hid (by rw [hfe.out]; exact hB5.out)
    have hfl : (fillA cells B16 S17 T18 x).length ≤ 60 := by rw [fillA_len hfb.out]; omega
    go_wp2_with fail
    refine wp_region_held_drew (S := fun w' => w'.cell? ⟨w.heap.size, 0, none⟩ = some (.slice p0 cells.length c0) ∧ w'.cell? ⟨w.heap.size, 1, none⟩ = some (.slice (some ⟨bl27, ol28, none⟩) es.length c1) ∧ w'.cell? ⟨bl27, ol28 + k * 5 + 1, none⟩ = some (.int .i64 B16) ∧ w'.cell? ⟨bl27, ol28 + k * 5 + 2, none⟩ = some (.slice u21 S17.length c22) ∧ w'.cell? ⟨bl27, ol28 + k * 5 + 3, none⟩ = some (.slice u23 T18.length c24)) qKr ⟨b10, b11, x141, x142, x143⟩ (fun hHeld => ?_)
    refine qHk (v := ?_) 0 rfl (.inl ⟨by rfl, ?_⟩) ?_
    rotate_left
    ·
     (intro w hSw; (try dsimp only at hSw); go_simp; try with_reducible rfl)
    try simp only [Act.put, qa, qb, qc, qD, qE, qF]
    refine qHk (v := ?_) 1 rfl (.inl ⟨by rfl, ?_⟩) ?_
    rotate_left
    ·
     (intro w hSw; (try dsimp only at hSw); go_simp; try with_reducible rfl)
    try simp only [Act.put, qa, qb, qc, qD, qE, qF]
    refine qHk (v := ?_) 2 rfl (.inl ⟨by rfl, ?_⟩) ?_
    rotate_left
    ·
     (intro w hSw; (try dsimp only at hSw); go_simp; try with_reducible rfl)
    try simp only [Act.put, qa, qb, qc, qD, qE, qF]
    refine qHk (v := ?_) 3 rfl (.inl ⟨by rfl, ?_⟩) ?_
    rotate_left
    ·
     (intro w hSw; (try dsimp only at hSw); go_simp; try with_reducible rfl)
    try simp only [Act.put, qa, qb, qc, qD, qE, qF]
    refine qHk (v := ?_) 4 rfl (.inl ⟨by rfl, ?_⟩) ?_
    rotate_left
    ·
     (intro w hSw; (try dsimp only at hSw); go_simp; try with_reducible rfl)
    try simp only [Act.put, qa, qb, qc, qD, qE, qF]
    refine qHk (v := ?_) 5 rfl (.inl ⟨by rfl, ?_⟩) ?_
    rotate_left
    ·
     (intro w hSw; (try dsimp only at hSw); go_simp; try with_reducible rfl)
    try simp only [Act.put, qa, qb, qc, qD, qE, qF]
    refine qHk (v := ?_) 6 rfl (.inl ⟨by rfl, ?_⟩) ?_
    rotate_left
    ·
     (intro w hSw; (try dsimp only at hSw); go_simp; try with_reducible rfl)
    try simp only [Act.put, qa, qb, qc, qD, qE, qF]
    refine qHk (v := ?_) 7 rfl (.inl ⟨by rfl, ?_⟩) ?_
    rotate_left
    ·
     (intro w hSw; (try dsimp only at hSw); go_simp; try with_reducible rfl)
    try simp only [Act.put, qa, qb, qc, qD, qE, qF]
    refine qHk (v := ?_) 8 rfl (.inl ⟨by rfl, ?_⟩) ?_
    rotate_left
    ·
     (intro w hSw; (try dsimp only at hSw); go_simp; try with_reducible rfl)
    try simp only [Act.put, qa, qb, qc, qD, qE, qF]
    refine qHr 9 rfl (fun K hK => ?_)
    try simp only [Act.put, qa, qb, qc, qD, qE, qF]
    go_simp
    refine (specFillView_c cells (.slice p0 cells.length c0) B16 (.slice u21 S17.length c22) (.slice u23 T18.length c24) S17 T18 x _ _ (h1.ext (Xw4.trans qXt)) _ _ (i25.ext (Xw4.trans qXt)) (i26.ext (Xw4.trans qXt))).mono ?_
    rintro e w5 ⟨fv29, rfl, i30, i30z, czfv29, xw5⟩
    have Lw5 : Ext w4 w5 := Ext.trans qXt xw5
    have Xw5 : Ext w w5 := Xw4.trans Lw5
    replace b10 := Lw5.cell b10
    replace b11 := Lw5.cell b11
    replace b20 := Lw5.cell b20
    replace b21 := Lw5.cell b21
    replace f_b20 := Lw5.frz z_b2 f_b20
    replace f_b21 := Lw5.frz z_b2 f_b21
    replace b130 := Lw5.cell b130
    replace b131 := Lw5.cell b131
    replace f_b130 := Lw5.frz z_b13 f_b130
    replace f_b131 := Lw5.frz z_b13 f_b131
    replace x140 := Lw5.cell x140
    replace x141 := Lw5.cell x141
    replace x142 := Lw5.cell x142
    replace x143 := Lw5.cell x143
    replace x144 := Lw5.cell x144
    have z_b1 : w.heap.size < w5.heap.size := qB b10
    have z_b2 : w.heap.size + 1 < w5.heap.size := qB b20
    have z_b13 : w3.heap.size < w5.heap.size := qB b130
    have z_x14 : bl27 < w5.heap.size := qB x140
    replace bf6 := bf6.ext Lw5
    have s_w5 : w.heap.size ≤ w5.heap.size := Xw5.size
    have BL10_w5 : Ext w2 w5 := BL10_w4.trans Lw5
    have BL12_w5 : Ext w3 w5 := BL12_w4.trans Lw5
    clear xw5
    try simp only [World.size_alloc, World.size_drew] at i30
    try simp only [World.size_alloc, World.size_drew] at i30z
    obtain ⟨afv29, cfv29, rfl⟩ := i30.form
    rw [hfb.out]
    refine hK.out _ _ ⟨b10, b11, x141, x142, x143⟩ (fun hHeld => ?_)
    clear hK K
    try simp only [Act.put, qa, qb, qc, qD, qE, qF]
    refine qHk (v := ?_) 10 rfl (.inl ⟨by rfl, ?_⟩) ?_
    rotate_left
    ·
     (intro w hSw; (try dsimp only at hSw); go_simp; try with_reducible rfl)
    try simp only [Act.put, qa, qb, qc, qD, qE, qF]
    refine qHk (v := ?_) 11 rfl (.inl ⟨by rfl, ?_⟩) ?_
    rotate_left
    ·
     (intro w hSw; (try dsimp only at hSw); go_simp; try with_reducible rfl)
    try simp only [Act.put, qa, qb, qc, qD, qE, qF]
    refine qHk (v := ?_) 12 rfl (.inl ⟨by rfl, ?_⟩) ?_
    rotate_left
    ·
     (intro w hSw; (try dsimp only at hSw); go_simp; try with_reducible rfl)
    try simp only [Act.put, qa, qb, qc, qD, qE, qF]
    refine qHk (v := ?_) 13 rfl (.inl ⟨by rfl, ?_⟩) ?_
    rotate_left
    ·
     (intro w hSw; (try dsimp only at hSw); go_simp; try with_reducible rfl)
    try simp only [Act.put, qa, qb, qc, qD, qE, qF]
    refine qHr 14 rfl (fun K hK => ?_)
    try simp only [Act.put, qa, qb, qc, qD, qE, qF]
    go_simp
    generalize hW9 : (w5.setCell ⟨w3.heap.size, 0, none⟩ (.slice afv29 ((fillA cells B16 S17 T18 x).length) cfv29)) = w6 at *
    have Kw6 : Chg (w3.heap.size) (w3.heap.size + 1) w5 w6 := by subst hW9; exact qCh
    have Xw6 : Ext w w6 := by subst hW9; exact qXt
    have BL10_w6 : Ext w2 w6 := by subst hW9; exact qXt
    have BL12_w6 : Ext w3 w6 := by subst hW9; exact qXt
    replace b10 := Kw6.cell (by omega) b10
    replace b11 := Kw6.cell (by omega) b11
    replace b20 := BL12_w6.cell Q11_b20.out
    replace f_b20 := BL12_w6.frz Q11_zb2 Q11_f_b20.out
    replace b21 := BL12_w6.cell Q11_b21.out
    replace f_b21 := BL12_w6.frz Q11_zb2 Q11_f_b21.out
    replace b130 : w6.cell? ⟨w3.heap.size, 0, none⟩ = some (.slice afv29 ((fillA cells B16 S17 T18 x).length) cfv29) := by subst hW9; go_simp
    replace f_b130 : w6.frozen? ⟨w3.heap.size, 0, none⟩ = false := by subst hW9; first | (simp only [World.frozen?_setCell]; with_reducible assumption) | go_simp
    replace b131 : w6.cell? ⟨w3.heap.size, 1, none⟩ = some (.slice efb7 es.length dfb7) := by subst hW9; go_simp
    replace f_b131 : w6.frozen? ⟨w3.heap.size, 1, none⟩ = false := by subst hW9; first | (simp only [World.frozen?_setCell]; with_reducible assumption) | go_simp
    replace x140 := Kw6.cell (by omega) x140
    replace x141 := Kw6.cell (by omega) x141
    replace x142 := Kw6.cell (by omega) x142
    replace x143 := Kw6.cell (by omega) x143
    replace x144 := Kw6.cell (by omega) x144
    replace bf6 := (Q11_bf6.out).ext BL12_w6
    replace i30 := i30.chg Kw6 (by omega)
    replace i30z := i30z.chg Kw6 (by omega)
    clear Kw6
    have z_b1 : w.heap.size < w6.heap.size := qB b10
    have z_b2 : w.heap.size + 1 < w6.heap.size := qB b20
    have z_b13 : w3.heap.size < w6.heap.size := qB b130
    have z_x14 : bl27 < w6.heap.size := qB x140
    have s_w6 : w.heap.size ≤ w6.heap.size := Xw6.size
    clear hW9
    refine hK.out _ _ ⟨b10, b11, x141, x142, x143⟩ (fun hHeld => ?_)
    clear hK K
    try simp only [Act.put, qa, qb, qc, qD, qE, qF]
    refine wpAnyH_done qKr ?_ _
    clear hHeld 
    go_wp2_with fail
    generalize hW10 : ((w6.setCell ⟨w.heap.size + 1, 0, none⟩ (.slice afv29 ((fillA cells B16 S17 T18 x).length) cfv29)).setCell ⟨w.heap.size + 1, 1, none⟩ (.slice efb7 es.length dfb7)) = w7 at *
    have Kw7 : Chg (w.heap.size + 1) (w.heap.size + 1 + 1) w6 w7 := by subst hW10; exact qCh
    have Xw7 : Ext w w7 := by subst hW10; exact qXt
    replace b10 := Kw7.cell (by omega) b10
    replace b11 := Kw7.cell (by omega) b11
    replace b20 : w7.cell? ⟨w.heap.size + 1, 0, none⟩ = some (.slice afv29 ((fillA cells B16 S17 T18 x).length) cfv29) := by subst hW10; go_simp
    replace f_b20 : w7.frozen? ⟨w.heap.size + 1, 0, none⟩ = false := by subst hW10; first | (simp only [World.frozen?_setCell]; with_reducible assumption) | go_simp
    replace b21 : w7.cell? ⟨w.heap.size + 1, 1, none⟩ = some (.slice efb7 es.length dfb7) := by subst hW10; go_simp
    replace f_b21 : w7.frozen? ⟨w.heap.size + 1, 1, none⟩ = false := by subst hW10; first | (simp only [World.frozen?_setCell]; with_reducible assumption) | go_simp
    replace b130 := Kw7.cell (by omega) b130
    replace f_b130 := Kw7.frzO (by omega) z_b13 f_b130
    replace b131 := Kw7.cell (by omega) b131
    replace f_b131 := Kw7.frzO (by omega) z_b13 f_b131
    replace x140 := Kw7.cell (by omega) x140
    replace x141 := Kw7.cell (by omega) x141
    replace x142 := Kw7.cell (by omega) x142
    replace x143 := Kw7.cell (by omega) x143
    replace x144 := Kw7.cell (by omega) x144
    replace bf6 := bf6.chg Kw7 (by omega)
    replace i30 := i30.chg Kw7 (by omega)
    replace i30z := i30z.chg Kw7 (by omega)
    clear Kw7
    have z_b1 : w.heap.size < w7.heap.size := qB b10
    have z_b2 : w.heap.size + 1 < w7.heap.size := qB b20
    have z_b13 : w3.heap.size < w7.heap.size := qB b130
    have z_x14 : bl27 < w7.heap.size := qB x140
    have s_w7 : w.heap.size ≤ w7.heap.size := Xw7.size
    clear hW10
    refine bodyPost_ret (v := .tuple #[.agg #[.slice afv29 ((fillA cells B16 S17 T18 x).length) cfv29, .slice efb7 es.length dfb7], .bool true]) (by simp only [results, Tryd.results32]; go_simp) rfl ?_
    have eqA : filA cells es (k : Int) x = (fillA cells B16 S17 T18 x, es, true) := by unfold filA; rw [hbb.out, hop.out, show inB 0 255 x = true from hB5.out, Int.toNat_natCast, hX20.out]; rfl
    exact PBX.yes eqA ((bf6.cellsQ (lo2 := w.heap.size) (by omega) q_bf6.out (i30z.lower (by omega)) czfv29 (by omega) (fun hs g hg => by obtain ⟨g7, h7, h8, h9⟩ := i30z.lt hs; rw [hg] at h7; cases h7; omega)).ext qXt) (Xw7.trans qXt)


end Go.Proofs.YtgklaobfikbiiaaDoor

/- Walks: CopyExport of both. -/
namespace Go.Proofs.YtgklaobfikbiiaaDoor
open Go.RowKit
set_option linter.unusedVariables false
set_option maxRecDepth 100000

set_option maxHeartbeats 3200000 in
theorem specCopyExport_c (cells : List Int) (es : List Exp) (cv ev : Value) (i j : Int) (w : World) (l1 l2 : Nat) (h1 : Ints w l1 cv cells) (h2 : Exps w l2 ev es) :
  Calls Tryd.prog 33 #[.agg #[cv, ev], .int .i64 i, .int .i64 j] w (PBX w (cpyA cells es i j)) := by
 obtain ⟨p0, c0, rfl⟩ := h1.form
 obtain ⟨p1, c1, rfl⟩ := h2.form
 have he1 := h2.len
 have hc1 := h1.len
 go_enter Tryd.func33, Tryd.ntmps33
 go_wp2_with fail
 refine (validBuffer_c cells es (.slice p0 cells.length c0) (.slice p1 es.length c1) _ _ _ (h1.ext qXt) (h2.ext qXt)).mono ?_
 rintro e w1 ⟨rfl, xw1⟩
 have Lw1 : Ext w w1 := Ext.trans qXt xw1
 have Xw1 : Ext w w1 := Lw1
 have b10 : w1.cell? ⟨w.heap.size, 0, none⟩ = some (.slice p0 cells.length c0) := xw1.cell qCl
 have b11 : w1.cell? ⟨w.heap.size, 1, none⟩ = some (.slice p1 es.length c1) := xw1.cell qCl
 have b20 : w1.cell? ⟨w.heap.size + 1, 0, none⟩ = some (.slice none 0 0) := xw1.cell qCl
 have b21 : w1.cell? ⟨w.heap.size + 1, 1, none⟩ = some (.slice none 0 0) := xw1.cell qCl
 have f_b20 : w1.frozen? ⟨w.heap.size + 1, 0, none⟩ = false := xw1.frz (by simp <;> omega) qFz
 have f_b21 : w1.frozen? ⟨w.heap.size + 1, 1, none⟩ = false := xw1.frz (by simp <;> omega) qFz
 have z_b1 : w.heap.size < w1.heap.size := qB b10
 have z_b2 : w.heap.size + 1 < w1.heap.size := qB b20
 have s_w1 : w.heap.size ≤ w1.heap.size := Xw1.size
 clear xw1
 cases hB3 : bufB cells es
 ·
  replace hB3 := Lib.hid hB3
  go_wp2_with fail
  generalize hW6 : ((w1.setCell ⟨w.heap.size + 1, 0, none⟩ (.slice none 0 0)).setCell ⟨w.heap.size + 1, 1, none⟩ (.slice none 0 0)) = w2 at *
  have Kw2 : Chg (w.heap.size + 1) (w.heap.size + 1 + 1) w1 w2 := by subst hW6; exact qCh
  have Xw2 : Ext w w2 := by subst hW6; exact qXt
  replace b10 := Kw2.cell (by omega) b10
  replace b11 := Kw2.cell (by omega) b11
  replace b20 : w2.cell? ⟨w.heap.size + 1, 0, none⟩ = some (.slice none 0 0) := by subst hW6; go_simp
  replace f_b20 : w2.frozen? ⟨w.heap.size + 1, 0, none⟩ = false := by subst hW6; first | (simp only [World.frozen?_setCell]; with_reducible assumption) | go_simp
  replace b21 : w2.cell? ⟨w.heap.size + 1, 1, none⟩ = some (.slice none 0 0) := by subst hW6; go_simp
  replace f_b21 : w2.frozen? ⟨w.heap.size + 1, 1, none⟩ = false := by subst hW6; first | (simp only [World.frozen?_setCell]; with_reducible assumption) | go_simp
  clear Kw2
  have z_b1 : w.heap.size < w2.heap.size := qB b10
  have z_b2 : w.heap.size + 1 < w2.heap.size := qB b20
  have s_w2 : w.heap.size ≤ w2.heap.size := Xw2.size
  clear hW6
  refine bodyPost_ret (v := .tuple #[.agg #[.slice none 0 0, .slice none 0 0], .bool false]) (by simp only [results, Tryd.results33]; go_simp) rfl ?_
  exact PBX.no (by unfold cpyA; rw [(show (bufB cells es && (opB es i && opB es j)) = false by rw [hB3.out]; rfl), Bool.false_and]; rfl) (Xw2.trans qXt)
 ·
  replace hB3 := Lib.hid hB3
  have hbb : Hid (bufB cells es = true) := Lib.hid hB3.out
  go_wp2_with fail
  refine (specIsOpen_c cells es (.slice p0 cells.length c0) (.slice p1 es.length c1) i _ _ _ (h1.ext (Xw1.trans qXt)) (h2.ext (Xw1.trans qXt))).mono ?_
  rintro e w2 ⟨rfl, xw2⟩
  have Lw2 : Ext w1 w2 := Ext.trans qXt xw2
  have Xw2 : Ext w w2 := Xw1.trans Lw2
  replace b10 := Lw2.cell b10
  replace b11 := Lw2.cell b11
  replace b20 := Lw2.cell b20
  replace b21 := Lw2.cell b21
  replace f_b20 := Lw2.frz z_b2 f_b20
  replace f_b21 := Lw2.frz z_b2 f_b21
  have z_b1 : w.heap.size < w2.heap.size := qB b10
  have z_b2 : w.heap.size + 1 < w2.heap.size := qB b20
  have s_w2 : w.heap.size ≤ w2.heap.size := Xw2.size
  clear xw2
  cases hB4 : opB es i
  ·
   replace hB4 := Lib.hid hB4
   go_wp2_with fail
   generalize hW7 : ((w2.setCell ⟨w.heap.size + 1, 0, none⟩ (.slice none 0 0)).setCell ⟨w.heap.size + 1, 1, none⟩ (.slice none 0 0)) = w3 at *
   have Kw3 : Chg (w.heap.size + 1) (w.heap.size + 1 + 1) w2 w3 := by subst hW7; exact qCh
   have Xw3 : Ext w w3 := by subst hW7; exact qXt
   replace b10 := Kw3.cell (by omega) b10
   replace b11 := Kw3.cell (by omega) b11
   replace b20 : w3.cell? ⟨w.heap.size + 1, 0, none⟩ = some (.slice none 0 0) := by subst hW7; go_simp
   replace f_b20 : w3.frozen? ⟨w.heap.size + 1, 0, none⟩ = false := by subst hW7; first | (simp only [World.frozen?_setCell]; with_reducible assumption) | go_simp
   replace b21 : w3.cell? ⟨w.heap.size + 1, 1, none⟩ = some (.slice none 0 0) := by subst hW7; go_simp
   replace f_b21 : w3.frozen? ⟨w.heap.size + 1, 1, none⟩ = false := by subst hW7; first | (simp only [World.frozen?_setCell]; with_reducible assumption) | go_simp
   clear Kw3
   have z_b1 : w.heap.size < w3.heap.size := qB b10
   have z_b2 : w.heap.size + 1 < w3.heap.size := qB b20
   have s_w3 : w.heap.size ≤ w3.heap.size := Xw3.size
   clear hW7
   refine bodyPost_ret (v := .tuple #[.agg #[.slice none 0 0, .slice none 0 0], .bool false]) (by simp only [results, Tryd.results33]; go_simp) rfl ?_
   exact PBX.no (by unfold cpyA; rw [(show (bufB cells es && (opB es i && opB es j)) = false by rw [hB4.out, Bool.false_and, Bool.and_false]), Bool.false_and]; rfl) (Xw3.trans qXt)
  ·
   replace hB4 := Lib.hid hB4
   have hop : Hid (opB es i = true) := Lib.hid hB4.out
   obtain ⟨hop0, hop1, hop2⟩ := opB_in hop.out
   obtain ⟨k, rfl⟩ : ∃ q : Nat, i = q := ⟨i.toNat, by omega⟩
   have hltk : k < es.length := by omega
   replace hop2 := Lib.hid hop2
   go_wp2_with fail
   refine (specIsOpen_c cells es (.slice p0 cells.length c0) (.slice p1 es.length c1) j _ _ _ (h1.ext (Xw2.trans qXt)) (h2.ext (Xw2.trans qXt))).mono ?_
   rintro e w3 ⟨rfl, xw3⟩
   have Lw3 : Ext w2 w3 := Ext.trans qXt xw3
   have Xw3 : Ext w w3 := Xw2.trans Lw3
   replace b10 := Lw3.cell b10
   replace b11 := Lw3.cell b11
   replace b20 := Lw3.cell b20
   replace b21 := Lw3.cell b21
   replace f_b20 := Lw3.frz z_b2 f_b20
   replace f_b21 := Lw3.frz z_b2 f_b21
   have z_b1 : w.heap.size < w3.heap.size := qB b10
   have z_b2 : w.heap.size + 1 < w3.heap.size := qB b20
   have s_w3 : w.heap.size ≤ w3.heap.size := Xw3.size
   clear xw3
   cases hB5 : opB es j
   ·
    replace hB5 := Lib.hid hB5
    go_wp2_with fail
    generalize hW8 : ((w3.setCell ⟨w.heap.size + 1, 0, none⟩ (.slice none 0 0)).setCell ⟨w.heap.size + 1, 1, none⟩ (.slice none 0 0)) = w4 at *
    have Kw4 : Chg (w.heap.size + 1) (w.heap.size + 1 + 1) w3 w4 := by subst hW8; exact qCh
    have Xw4 : Ext w w4 := by subst hW8; exact qXt
    replace b10 := Kw4.cell (by omega) b10
    replace b11 := Kw4.cell (by omega) b11
    replace b20 : w4.cell? ⟨w.heap.size + 1, 0, none⟩ = some (.slice none 0 0) := by subst hW8; go_simp
    replace f_b20 : w4.frozen? ⟨w.heap.size + 1, 0, none⟩ = false := by subst hW8; first | (simp only [World.frozen?_setCell]; with_reducible assumption) | go_simp
    replace b21 : w4.cell? ⟨w.heap.size + 1, 1, none⟩ = some (.slice none 0 0) := by subst hW8; go_simp
    replace f_b21 : w4.frozen? ⟨w.heap.size + 1, 1, none⟩ = false := by subst hW8; first | (simp only [World.frozen?_setCell]; with_reducible assumption) | go_simp
    clear Kw4
    have z_b1 : w.heap.size < w4.heap.size := qB b10
    have z_b2 : w.heap.size + 1 < w4.heap.size := qB b20
    have s_w4 : w.heap.size ≤ w4.heap.size := Xw4.size
    clear hW8
    refine bodyPost_ret (v := .tuple #[.agg #[.slice none 0 0, .slice none 0 0], .bool false]) (by simp only [results, Tryd.results33]; go_simp) rfl ?_
    exact PBX.no (by unfold cpyA; rw [(show (bufB cells es && (opB es (k : Int) && opB es j)) = false by rw [hB5.out, Bool.and_false, Bool.and_false]), Bool.false_and]; rfl) (Xw4.trans qXt)
   ·
    replace hB5 := Lib.hid hB5
    have hoq : Hid (opB es j = true) := Lib.hid hB5.out
    obtain ⟨hoq0, hoq1, hoq2⟩ := opB_in hoq.out
    obtain ⟨m, rfl⟩ : ∃ q : Nat, j = q := ⟨j.toNat, by omega⟩
    have hltm : m < es.length := by omega
    replace hoq2 := Lib.hid hoq2
    go_wp2_with fail
    have hN_x6 : k < es.length := hltk
    have hI_x6 : (k : Int) < (es.length : Int) := by omega
    obtain ⟨bl19, ol20, u13, c14, u15, c16, rfl, x60, x61, x62, x63, x64, i17, i18⟩ := h2.at k hN_x6
    obtain ⟨X12, hX12⟩ : ∃ x, expAt es k = x := ⟨_, rfl⟩
    rw [hX12] at x60 x61 x62 x63 x64 i17 i18
    obtain ⟨P7, B8, S9, T10, O11⟩ := X12
    dsimp only at x60 x61 x62 x63 x64 i17 i18
    replace hX12 := Lib.hid hX12
    have hLS9 := i17.len
    have hLT10 := i18.len
    have y_x6 : bl19 < w.heap.size := qB x60
    replace x60 := Xw3.cell x60
    replace x61 := Xw3.cell x61
    replace x62 := Xw3.cell x62
    replace x63 := Xw3.cell x63
    replace x64 := Xw3.cell x64
    have z_x6 : bl19 < w3.heap.size := qB x60
    have hN_x21 : m < es.length := hltm
    have hI_x21 : (m : Int) < (es.length : Int) := by omega
    obtain ⟨b_x21, o_x21, u28, c29, u30, c31, h_x21, x210, x211, x212, x213, x214, i32, i33⟩ := h2.at m hN_x21
    cases h_x21
    obtain ⟨X27, hX27⟩ : ∃ x, expAt es m = x := ⟨_, rfl⟩
    rw [hX27] at x210 x211 x212 x213 x214 i32 i33
    obtain ⟨P22, B23, S24, T25, O26⟩ := X27
    dsimp only at x210 x211 x212 x213 x214 i32 i33
    replace hX27 := Lib.hid hX27
    have hLS24 := i32.len
    have hLT25 := i33.len
    have y_x21 : bl19 < w.heap.size := qB x210
    replace x210 := Xw3.cell x210
    replace x211 := Xw3.cell x211
    replace x212 := Xw3.cell x212
    replace x213 := Xw3.cell x213
    replace x214 := Xw3.cell x214
    have z_x21 : bl19 < w3.heap.size := qB x210
    have hc60 := (bufB_in hbb.out).2.1
    go_wp2_with fail
    refine wp_region_tail (S := fun w' => w'.cell? ⟨w.heap.size, 0, none⟩ = some (.slice p0 cells.length c0) ∧ w'.cell? ⟨w.heap.size, 1, none⟩ = some (.slice (some ⟨bl19, ol20, none⟩) es.length c1) ∧ w'.cell? ⟨bl19, ol20 + k * 5 + 1, none⟩ = some (.int .i64 B8) ∧ w'.cell? ⟨bl19, ol20 + k * 5 + 2, none⟩ = some (.slice u13 S9.length c14) ∧ w'.cell? ⟨bl19, ol20 + k * 5 + 3, none⟩ = some (.slice u15 T10.length c16) ∧ w'.cell? ⟨bl19, ol20 + m * 5 + 1, none⟩ = some (.int .i64 B23) ∧ w'.cell? ⟨bl19, ol20 + m * 5 + 2, none⟩ = some (.slice u28 S24.length c29) ∧ w'.cell? ⟨bl19, ol20 + m * 5 + 3, none⟩ = some (.slice u30 T25.length c31)) (fun i => decide (20 ≤ i)) qKr ⟨b10, b11, x61, x62, x63, x211, x212, x213⟩ (fun hHeld => ?_)
    refine qTk (v := ?_) 0 rfl (.inl ⟨by rfl, ?_⟩) ?_
    rotate_left
    ·
     (intro w hSw; (try dsimp only at hSw); go_simp; try with_reducible rfl)
    try simp only [Act.put, qa, qb, qc, qD, qE, qF]
    refine qTk (v := ?_) 1 rfl (.inl ⟨by rfl, ?_⟩) ?_
    rotate_left
    ·
     (intro w hSw; (try dsimp only at hSw); go_simp; try with_reducible rfl)
    try simp only [Act.put, qa, qb, qc, qD, qE, qF]
    refine qTk (v := ?_) 2 rfl (.inl ⟨by rfl, ?_⟩) ?_
    rotate_left
    ·
     (intro w hSw; (try dsimp only at hSw); go_simp; try with_reducible rfl)
    try simp only [Act.put, qa, qb, qc, qD, qE, qF]
    refine qTk (v := ?_) 3 rfl (.inl ⟨by rfl, ?_⟩) ?_
    rotate_left
    ·
     (intro w hSw; (try dsimp only at hSw); go_simp; try with_reducible rfl)
    try simp only [Act.put, qa, qb, qc, qD, qE, qF]
    refine qTk (v := ?_) 4 rfl (.inl ⟨by rfl, ?_⟩) ?_
    rotate_left
    ·
     (intro w hSw; (try dsimp only at hSw); go_simp; try with_reducible rfl)
    try simp only [Act.put, qa, qb, qc, qD, qE, qF]
    refine qTk (v := ?_) 5 rfl (.inl ⟨by rfl, ?_⟩) ?_
    rotate_left
    ·
     (intro w hSw; (try dsimp only at hSw); go_simp; try with_reducible rfl)
    try simp only [Act.put, qa, qb, qc, qD, qE, qF]
    refine qTk (v := ?_) 6 rfl (.inl ⟨by rfl, ?_⟩) ?_
    rotate_left
    ·
     (intro w hSw; (try dsimp only at hSw); go_simp; try with_reducible rfl)
    try simp only [Act.put, qa, qb, qc, qD, qE, qF]
    refine qTk (v := ?_) 7 rfl (.inl ⟨by rfl, ?_⟩) ?_
    rotate_left
    ·
     (intro w hSw; (try dsimp only at hSw); go_simp; try with_reducible rfl)
    try simp only [Act.put, qa, qb, qc, qD, qE, qF]
    refine qTk (v := ?_) 8 rfl (.inl ⟨by rfl, ?_⟩) ?_
    rotate_left
    ·
     (intro w hSw; (try dsimp only at hSw); go_simp; try with_reducible rfl)
    try simp only [Act.put, qa, qb, qc, qD, qE, qF]
    refine qTk (v := ?_) 9 rfl (.inl ⟨by rfl, ?_⟩) ?_
    rotate_left
    ·
     (intro w hSw; (try dsimp only at hSw); go_simp; try with_reducible rfl)
    try simp only [Act.put, qa, qb, qc, qD, qE, qF]
    refine qTk (v := ?_) 10 rfl (.inl ⟨by rfl, ?_⟩) ?_
    rotate_left
    ·
     (intro w hSw; (try dsimp only at hSw); go_simp; try with_reducible rfl)
    try simp only [Act.put, qa, qb, qc, qD, qE, qF]
    refine qTk (v := ?_) 11 rfl (.inl ⟨by rfl, ?_⟩) ?_
    rotate_left
    ·
     (intro w hSw; (try dsimp only at hSw); go_simp; try with_reducible rfl)
    try simp only [Act.put, qa, qb, qc, qD, qE, qF]
    refine qTk (v := ?_) 12 rfl (.inl ⟨by rfl, ?_⟩) ?_
    rotate_left
    ·
     (intro w hSw; (try dsimp only at hSw); go_simp; try with_reducible rfl)
    try simp only [Act.put, qa, qb, qc, qD, qE, qF]
    refine qTk (v := ?_) 13 rfl (.inl ⟨by rfl, ?_⟩) ?_
    rotate_left
    ·
     (intro w hSw; (try dsimp only at hSw); go_simp; try with_reducible rfl)
    try simp only [Act.put, qa, qb, qc, qD, qE, qF]
    refine wpTail_one (i := 14) qKr rfl rfl (fun K hK => ?_)
    try simp only [Act.put, qa, qb, qc, qD, qE, qF]
    go_simp
    refine (specCopyView_c cells (.slice p0 cells.length c0) B8 (.slice u13 S9.length c14) (.slice u15 T10.length c16) S9 T10 B23 (.slice u28 S24.length c29) (.slice u30 T25.length c31) S24 T25 _ _ (h1.ext (Xw3.trans qXt)) _ _ (i17.ext (Xw3.trans qXt)) (i18.ext (Xw3.trans qXt)) _ _ (i32.ext (Xw3.trans qXt)) (i33.ext (Xw3.trans qXt))).mono ?_
    rintro e w4 ⟨fv36, rfl, i37, i37z, czfv36, xw4⟩
    have Lw4 : Ext w3 w4 := Ext.trans qXt xw4
    have Xw4 : Ext w w4 := Xw3.trans Lw4
    replace b10 := Lw4.cell b10
    replace b11 := Lw4.cell b11
    replace b20 := Lw4.cell b20
    replace b21 := Lw4.cell b21
    replace f_b20 := Lw4.frz z_b2 f_b20
    replace f_b21 := Lw4.frz z_b2 f_b21
    replace x60 := Lw4.cell x60
    replace x61 := Lw4.cell x61
    replace x62 := Lw4.cell x62
    replace x63 := Lw4.cell x63
    replace x64 := Lw4.cell x64
    replace x210 := Lw4.cell x210
    replace x211 := Lw4.cell x211
    replace x212 := Lw4.cell x212
    replace x213 := Lw4.cell x213
    replace x214 := Lw4.cell x214
    have z_b1 : w.heap.size < w4.heap.size := qB b10
    have z_b2 : w.heap.size + 1 < w4.heap.size := qB b20
    have z_x6 : bl19 < w4.heap.size := qB x60
    have z_x21 : bl19 < w4.heap.size := qB x210
    have s_w4 : w.heap.size ≤ w4.heap.size := Xw4.size
    clear xw4
    try simp only [World.size_alloc, World.size_drew] at i37
    try simp only [World.size_alloc, World.size_drew] at i37z
    obtain ⟨afv36, cfv36, rfl⟩ := i37.form
    cases hB38 : pairB cells B8 S9 T10 B23 S24 T25
    ·
     replace hB38 := Lib.hid hB38
     refine hK.out _ _ ⟨b10, b11, x61, x62, x63, x211, x212, x213⟩ (fun hHeld => ?_)
     clear hK K
     try simp only [Act.put, qa, qb, qc, qD, qE, qF]
     refine qTk (v := ?_) 15 rfl (.inl ⟨by rfl, ?_⟩) ?_
     rotate_left
     ·
      (intro w hSw; (try dsimp only at hSw); go_simp; try with_reducible rfl)
     try simp only [Act.put, qa, qb, qc, qD, qE, qF]
     refine qTk (v := ?_) 16 rfl (.inl ⟨by rfl, ?_⟩) ?_
     rotate_left
     ·
      (intro w hSw; (try dsimp only at hSw); go_simp; try with_reducible rfl)
     try simp only [Act.put, qa, qb, qc, qD, qE, qF]
     refine qTk (v := ?_) 17 rfl (.inl ⟨by rfl, ?_⟩) ?_
     rotate_left
     ·
      (intro w hSw; (try dsimp only at hSw); go_simp; try with_reducible rfl)
     try simp only [Act.put, qa, qb, qc, qD, qE, qF]
     refine qTk (v := ?_) 18 rfl (.inl ⟨by rfl, ?_⟩) ?_
     rotate_left
     ·
      (intro w hSw; (try dsimp only at hSw); go_simp; try with_reducible rfl)
     try simp only [Act.put, qa, qb, qc, qD, qE, qF]
     refine qTk (v := ?_) 19 rfl (.inl ⟨by rfl, ?_⟩) ?_
     rotate_left
     ·
      (intro w hSw; (try dsimp only at hSw); go_simp; try with_reducible rfl)
     try simp only [Act.put, qa, qb, qc, qD, qE, qF]
     refine wpTail_done qKr ?_ _
     clear hHeld 
     go_wp2_with fail
     generalize hW9 : ((w4.setCell ⟨w.heap.size + 1, 0, none⟩ (.slice none 0 0)).setCell ⟨w.heap.size + 1, 1, none⟩ (.slice none 0 0)) = w5 at *
     have Kw5 : Chg (w.heap.size + 1) (w.heap.size + 1 + 1) w4 w5 := by subst hW9; exact qCh
     have Xw5 : Ext w w5 := by subst hW9; exact qXt
     replace b10 := Kw5.cell (by omega) b10
     replace b11 := Kw5.cell (by omega) b11
     replace b20 : w5.cell? ⟨w.heap.size + 1, 0, none⟩ = some (.slice none 0 0) := by subst hW9; go_simp
     replace f_b20 : w5.frozen? ⟨w.heap.size + 1, 0, none⟩ = false := by subst hW9; first | (simp only [World.frozen?_setCell]; with_reducible assumption) | go_simp
     replace b21 : w5.cell? ⟨w.heap.size + 1, 1, none⟩ = some (.slice none 0 0) := by subst hW9; go_simp
     replace f_b21 : w5.frozen? ⟨w.heap.size + 1, 1, none⟩ = false := by subst hW9; first | (simp only [World.frozen?_setCell]; with_reducible assumption) | go_simp
     replace x60 := Kw5.cell (by omega) x60
     replace x61 := Kw5.cell (by omega) x61
     replace x62 := Kw5.cell (by omega) x62
     replace x63 := Kw5.cell (by omega) x63
     replace x64 := Kw5.cell (by omega) x64
     replace x210 := Kw5.cell (by omega) x210
     replace x211 := Kw5.cell (by omega) x211
     replace x212 := Kw5.cell (by omega) x212
     replace x213 := Kw5.cell (by omega) x213
     replace x214 := Kw5.cell (by omega) x214
     replace i37 := i37.chg Kw5 (by omega)
     replace i37z := i37z.chg Kw5 (by omega)
     clear Kw5
     have z_b1 : w.heap.size < w5.heap.size := qB b10
     have z_b2 : w.heap.size + 1 < w5.heap.size := qB b20
     have z_x6 : bl19 < w5.heap.size := qB x60
     have z_x21 : bl19 < w5.heap.size := qB x210
     have s_w5 : w.heap.size ≤ w5.heap.size := Xw5.size
     clear hW9
     refine bodyPost_ret (v := .tuple #[.agg #[.slice none 0 0, .slice none 0 0], .bool false]) (by simp only [results, Tryd.results33]; go_simp) rfl ?_
     exact PBX.no (by unfold cpyA; simp only [Int.toNat_natCast]; rw [hX12.out, hX27.out]; dsimp only; rw [hB38.out, Bool.and_false]; rfl) (Xw5.trans qXt)
    ·
     replace hB38 := Lib.hid hB38
     have hfl : (copyA cells B8 S9 T10 B23 S24 T25).length ≤ 60 := by rw [copyA_len hB38.out]; omega
     have hbd := Lib.hid i37z.bound
     refine hK.out _ _ ⟨b10, b11, x61, x62, x63, x211, x212, x213⟩ (fun hHeld => ?_)
     clear hK K
     try simp only [Act.put, qa, qb, qc, qD, qE, qF]
     refine qTk (v := ?_) 15 rfl (.inl ⟨by rfl, ?_⟩) ?_
     rotate_left
     ·
      (intro w hSw; (try dsimp only at hSw); go_simp; try with_reducible rfl)
     try simp only [Act.put, qa, qb, qc, qD, qE, qF]
     refine qTk (v := ?_) 16 rfl (.inl ⟨by rfl, ?_⟩) ?_
     rotate_left
     ·
      (intro w hSw; (try dsimp only at hSw); go_simp; try with_reducible rfl)
     try simp only [Act.put, qa, qb, qc, qD, qE, qF]
     refine qTk (v := ?_) 17 rfl (.inl ⟨by rfl, ?_⟩) ?_
     rotate_left
     ·
      (intro w hSw; (try dsimp only at hSw); go_simp; try with_reducible rfl)
     try simp only [Act.put, qa, qb, qc, qD, qE, qF]
     refine qTk (v := ?_) 18 rfl (.inl ⟨by rfl, ?_⟩) ?_
     rotate_left
     ·
      (intro w hSw; (try dsimp only at hSw); go_simp; try with_reducible rfl)
     try simp only [Act.put, qa, qb, qc, qD, qE, qF]
     refine qTk (v := ?_) 19 rfl (.inl ⟨by rfl, ?_⟩) ?_
     rotate_left
     ·
      (intro w hSw; (try dsimp only at hSw); go_simp; try with_reducible rfl)
     try simp only [Act.put, qa, qb, qc, qD, qE, qF]
     refine wpTail_done qKr ?_ _
     clear hHeld 
     go_wp2_with fail
     have Q42_b10 := Lib.hid b10
     have Q42_b11 := Lib.hid b11
     have Q42_zb1 := z_b1
     have Q42_b20 := Lib.hid b20
     have Q42_f_b20 := Lib.hid f_b20
     have Q42_b21 := Lib.hid b21
     have Q42_f_b21 := Lib.hid f_b21
     have Q42_zb2 := z_b2
     have Q42_x60 := Lib.hid x60
     have Q42_x61 := Lib.hid x61
     have Q42_x62 := Lib.hid x62
     have Q42_x63 := Lib.hid x63
     have Q42_x64 := Lib.hid x64
     have Q42_zx6 := z_x6
     have Q42_x210 := Lib.hid x210
     have Q42_x211 := Lib.hid x211
     have Q42_x212 := Lib.hid x212
     have Q42_x213 := Lib.hid x213
     have Q42_x214 := Lib.hid x214
     have Q42_zx21 := z_x21
     have Q42_i37 := Lib.hid i37
     have Q42_i37z := Lib.hid i37z
     have BL43 : Ext w4 w4 := Ext.refl _
     refine (specCopyBuffer_c cells es (.slice p0 cells.length c0) (.slice (some ⟨bl19, ol20, none⟩) es.length c1) _ _ _ (h1.ext (Xw4.trans qXt)) (h2.ext (Xw4.trans qXt))).mono ?_
     rintro e w5 ⟨cvfb40, evfb40, R41, rfl, bf39, xw5⟩
     have Lw5 : Ext w4 w5 := Ext.trans qXt xw5
     have Xw5 : Ext w w5 := Xw4.trans Lw5
     replace b10 := Lw5.cell b10
     replace b11 := Lw5.cell b11
     replace b20 := Lw5.cell b20
     replace b21 := Lw5.cell b21
     replace f_b20 := Lw5.frz z_b2 f_b20
     replace f_b21 := Lw5.frz z_b2 f_b21
     replace x60 := Lw5.cell x60
     replace x61 := Lw5.cell x61
     replace x62 := Lw5.cell x62
     replace x63 := Lw5.cell x63
     replace x64 := Lw5.cell x64
     replace x210 := Lw5.cell x210
     replace x211 := Lw5.cell x211
     replace x212 := Lw5.cell x212
     replace x213 := Lw5.cell x213
     replace x214 := Lw5.cell x214
     have z_b1 : w.heap.size < w5.heap.size := qB b10
     have z_b2 : w.heap.size + 1 < w5.heap.size := qB b20
     have z_x6 : bl19 < w5.heap.size := qB x60
     have z_x21 : bl19 < w5.heap.size := qB x210
     replace i37 := i37.ext Lw5
     replace i37z := i37z.ext Lw5
     have s_w5 : w.heap.size ≤ w5.heap.size := Xw5.size
     have BL43_w5 : Ext w4 w5 := BL43.trans Lw5
     clear xw5
     replace bf39 := bf39.lower (lo' := w4.heap.size) qSo
     obtain ⟨afb40, cfb40, rfl⟩ := bf39.ints.form
     obtain ⟨efb40, dfb40, rfl⟩ := bf39.exps.form
     have q_bf39 := Lib.hid bf39.at
     have Q44_b10 := Lib.hid b10
     have Q44_b11 := Lib.hid b11
     have Q44_zb1 := z_b1
     have Q44_b20 := Lib.hid b20
     have Q44_f_b20 := Lib.hid f_b20
     have Q44_b21 := Lib.hid b21
     have Q44_f_b21 := Lib.hid f_b21
     have Q44_zb2 := z_b2
     have Q44_x60 := Lib.hid x60
     have Q44_x61 := Lib.hid x61
     have Q44_x62 := Lib.hid x62
     have Q44_x63 := Lib.hid x63
     have Q44_x64 := Lib.hid x64
     have Q44_zx6 := z_x6
     have Q44_x210 := Lib.hid x210
     have Q44_x211 := Lib.hid x211
     have Q44_x212 := Lib.hid x212
     have Q44_x213 := Lib.hid x213
     have Q44_x214 := Lib.hid x214
     have Q44_zx21 := z_x21
     have Q44_i37 := Lib.hid i37
     have Q44_i37z := Lib.hid i37z
     have Q44_bf39 := Lib.hid bf39
     have BL45 : Ext w5 w5 := Ext.refl _
     go_upto_region 8 with fail
     have zn_BL43_w6 := (BL43_w5).size
     have zn_BL45_w6 := (BL45).size
     generalize hW10 : w5.alloc (.cells #[.slice afv36 ((copyA cells B8 S9 T10 B23 S24 T25).length) cfv36, .slice efb40 es.length dfb40] 34) = w6 at *
     have Lw6 : Ext w5 w6 := by subst hW10; exact qXt
     have Xw6 : Ext w w6 := Xw5.trans Lw6
     replace b10 := Lw6.cell b10
     replace b11 := Lw6.cell b11
     replace b20 := Lw6.cell b20
     replace b21 := Lw6.cell b21
     replace f_b20 := Lw6.frz z_b2 f_b20
     replace f_b21 := Lw6.frz z_b2 f_b21
     replace x60 := Lw6.cell x60
     replace x61 := Lw6.cell x61
     replace x62 := Lw6.cell x62
     replace x63 := Lw6.cell x63
     replace x64 := Lw6.cell x64
     replace x210 := Lw6.cell x210
     replace x211 := Lw6.cell x211
     replace x212 := Lw6.cell x212
     replace x213 := Lw6.cell x213
     replace x214 := Lw6.cell x214
     have b460 : w6.cell? ⟨w5.heap.size, 0, none⟩ = some (.slice afv36 ((copyA cells B8 S9 T10 B23 S24 T25).length) cfv36) := by subst hW10; exact qCl
     have b461 : w6.cell? ⟨w5.heap.size, 1, none⟩ = some (.slice efb40 es.length dfb40) := by subst hW10; exact qCl
     have f_b460 : w6.frozen? ⟨w5.heap.size, 0, none⟩ = false := by subst hW10; exact qFz
     have f_b461 : w6.frozen? ⟨w5.heap.size, 1, none⟩ = false := by subst hW10; exact qFz
     have z_b1 : w.heap.size < w6.heap.size := qB b10
     have z_b2 : w.heap.size + 1 < w6.heap.size := qB b20
     have z_x6 : bl19 < w6.heap.size := qB x60
     have z_x21 : bl19 < w6.heap.size := qB x210
     have z_b46 : w5.heap.size < w6.heap.size := qB b460
     replace i37 := i37.ext Lw6
     replace i37z := i37z.ext Lw6
     replace bf39 := bf39.ext Lw6
     have s_w6 : w.heap.size ≤ w6.heap.size := Xw6.size
     have BL43_w6 : Ext w4 w6 := BL43_w5.trans Lw6
     have BL45_w6 : Ext w5 w6 := BL45.trans Lw6
     clear hW10
     go_wp2_with fail
     generalize hW11 : ((w6.setCell ⟨w.heap.size + 1, 0, none⟩ (.slice afv36 ((copyA cells B8 S9 T10 B23 S24 T25).length) cfv36)).setCell ⟨w.heap.size + 1, 1, none⟩ (.slice efb40 es.length dfb40)) = w7 at *
     have Kw7 : Chg (w.heap.size + 1) (w.heap.size + 1 + 1) w6 w7 := by subst hW11; exact qCh
     have Xw7 : Ext w w7 := by subst hW11; exact qXt
     replace b10 := Kw7.cell (by omega) b10
     replace b11 := Kw7.cell (by omega) b11
     replace b20 : w7.cell? ⟨w.heap.size + 1, 0, none⟩ = some (.slice afv36 ((copyA cells B8 S9 T10 B23 S24 T25).length) cfv36) := by subst hW11; go_simp
     replace f_b20 : w7.frozen? ⟨w.heap.size + 1, 0, none⟩ = false := by subst hW11; first | (simp only [World.frozen?_setCell]; with_reducible assumption) | go_simp
     replace b21 : w7.cell? ⟨w.heap.size + 1, 1, none⟩ = some (.slice efb40 es.length dfb40) := by subst hW11; go_simp
     replace f_b21 : w7.frozen? ⟨w.heap.size + 1, 1, none⟩ = false := by subst hW11; first | (simp only [World.frozen?_setCell]; with_reducible assumption) | go_simp
     replace x60 := Kw7.cell (by omega) x60
     replace x61 := Kw7.cell (by omega) x61
     replace x62 := Kw7.cell (by omega) x62
     replace x63 := Kw7.cell (by omega) x63
     replace x64 := Kw7.cell (by omega) x64
     replace x210 := Kw7.cell (by omega) x210
     replace x211 := Kw7.cell (by omega) x211
     replace x212 := Kw7.cell (by omega) x212
     replace x213 := Kw7.cell (by omega) x213
     replace x214 := Kw7.cell (by omega) x214
     replace b460 := Kw7.cell (by omega) b460
     replace f_b460 := Kw7.frzO (by omega) z_b46 f_b460
     replace b461 := Kw7.cell (by omega) b461
     replace f_b461 := Kw7.frzO (by omega) z_b46 f_b461
     replace i37 := i37.chg Kw7 (by omega)
     replace i37z := i37z.chg Kw7 (by omega)
     replace bf39 := bf39.chg Kw7 (by omega)
     clear Kw7
     have z_b1 : w.heap.size < w7.heap.size := qB b10
     have z_b2 : w.heap.size + 1 < w7.heap.size := qB b20
     have z_x6 : bl19 < w7.heap.size := qB x60
     have z_x21 : bl19 < w7.heap.size := qB x210
     have z_b46 : w5.heap.size < w7.heap.size := qB b460
     have s_w7 : w.heap.size ≤ w7.heap.size := Xw7.size
     clear hW11
     refine bodyPost_ret (v := .tuple #[.agg #[.slice afv36 ((copyA cells B8 S9 T10 B23 S24 T25).length) cfv36, .slice efb40 es.length dfb40], .bool true]) (by simp only [results, Tryd.results33]; go_simp) rfl ?_
     have eqA : cpyA cells es (k : Int) (m : Int) = (copyA cells B8 S9 T10 B23 S24 T25, es, true) := by unfold cpyA; simp only [Int.toNat_natCast]; rw [hX12.out, hX27.out]; dsimp only; rw [hbb.out, hop.out, hoq.out, hB38.out]; rfl
     exact PBX.yes eqA ((bf39.cellsB (lo2 := w.heap.size) (by omega) (i37z.lower (by omega)) czfv36 (by omega) (fun hs g hg => by have h7 := hbd.out hs g hg; omega)).ext qXt) (Xw7.trans qXt)


end Go.Proofs.YtgklaobfikbiiaaDoor

/- Walks: buffers with one export more. -/
namespace Go.Proofs.YtgklaobfikbiiaaDoor
open Go.RowKit
set_option linter.unusedVariables false
set_option maxRecDepth 100000

end Go.Proofs.YtgklaobfikbiiaaDoor

/- Walks: ExportView of both. -/
namespace Go.Proofs.YtgklaobfikbiiaaDoor
open Go.RowKit
set_option linter.unusedVariables false
set_option maxRecDepth 100000

set_option maxHeartbeats 3200000 in
theorem added_c (cells : List Int) (es : List Exp) (cv ev : Value) (pr : Int) (b1 : Int) (u1 v1 : Value) (s1 t1 : List Int) (w : World) (l1 l2 : Nat) (h1 : Ints w l1 cv cells) (h2 : Exps w l2 ev es) (l3 l4 : Nat) (k1 : Ints w l3 u1 s1) (k2 : Ints w l4 v1 t1) (h8 : es.length < 8) :
  Calls Tryd.prog 42 #[.agg #[cv, ev], .int .i64 pr, .agg #[.int .i64 b1, u1, v1]] w (PBuf w cells (es ++ [⟨pr, b1, s1, t1, true⟩])) := by
 obtain ⟨p0, c0, rfl⟩ := h1.form
 obtain ⟨p1, c1, rfl⟩ := h2.form
 have he1 := h2.len
 have hc1 := h1.len
 obtain ⟨p2, c2, rfl⟩ := k1.form
 obtain ⟨p3, c3, rfl⟩ := k2.form
 have hk1 := k1.len
 have hk2 := k2.len
 go_enter Tryd.func42, Tryd.ntmps42
 go_wp2_with fail
 refine (specCopyBuffer_c cells es (.slice p0 cells.length c0) (.slice p1 es.length c1) _ _ _ (h1.ext qXt) (h2.ext qXt)).mono ?_
 rintro e w1 ⟨cvfb5, evfb5, R6, rfl, bf4, xw1⟩
 have Lw1 : Ext w w1 := Ext.trans qXt xw1
 have Xw1 : Ext w w1 := Lw1
 have b10 : w1.cell? ⟨w.heap.size, 0, none⟩ = some (.slice p0 cells.length c0) := xw1.cell qCl
 have b11 : w1.cell? ⟨w.heap.size, 1, none⟩ = some (.slice p1 es.length c1) := xw1.cell qCl
 have b20 : w1.cell? ⟨w.heap.size + 1, 0, none⟩ = some (.int .i64 b1) := xw1.cell qCl
 have b21 : w1.cell? ⟨w.heap.size + 1, 1, none⟩ = some (.slice p2 s1.length c2) := xw1.cell qCl
 have b22 : w1.cell? ⟨w.heap.size + 1, 2, none⟩ = some (.slice p3 t1.length c3) := xw1.cell qCl
 have b30 : w1.cell? ⟨w.heap.size + 1 + 1, 0, none⟩ = some (.slice none 0 0) := xw1.cell qCl
 have b31 : w1.cell? ⟨w.heap.size + 1 + 1, 1, none⟩ = some (.slice none 0 0) := xw1.cell qCl
 have f_b30 : w1.frozen? ⟨w.heap.size + 1 + 1, 0, none⟩ = false := xw1.frz (by simp <;> omega) qFz
 have f_b31 : w1.frozen? ⟨w.heap.size + 1 + 1, 1, none⟩ = false := xw1.frz (by simp <;> omega) qFz
 have z_b1 : w.heap.size < w1.heap.size := qB b10
 have z_b2 : w.heap.size + 1 < w1.heap.size := qB b20
 have z_b3 : w.heap.size + 1 + 1 < w1.heap.size := qB b30
 have s_w1 : w.heap.size ≤ w1.heap.size := Xw1.size
 clear xw1
 replace bf4 := bf4.lower (lo' := w.heap.size + 1 + 1 + 1) qSo
 obtain ⟨afb5, cfb5, rfl⟩ := bf4.ints.form
 obtain ⟨efb5, dfb5, rfl⟩ := bf4.exps.form
 have q_bf4 := Lib.hid bf4.at
 have Q7_b10 := Lib.hid b10
 have Q7_b11 := Lib.hid b11
 have Q7_zb1 := z_b1
 have Q7_b20 := Lib.hid b20
 have Q7_b21 := Lib.hid b21
 have Q7_b22 := Lib.hid b22
 have Q7_zb2 := z_b2
 have Q7_b30 := Lib.hid b30
 have Q7_f_b30 := Lib.hid f_b30
 have Q7_b31 := Lib.hid b31
 have Q7_f_b31 := Lib.hid f_b31
 have Q7_zb3 := z_b3
 have Q7_bf4 := Lib.hid bf4
 have BL8 : Ext w1 w1 := Ext.refl _
 go_wp2_with fail
 generalize hW9 : w1.alloc (.cells #[.slice afb5 cells.length cfb5, .slice efb5 es.length dfb5] 34) = w2 at *
 have Lw2 : Ext w1 w2 := by subst hW9; exact qXt
 have Xw2 : Ext w w2 := Xw1.trans Lw2
 replace b10 := Lw2.cell b10
 replace b11 := Lw2.cell b11
 replace b20 := Lw2.cell b20
 replace b21 := Lw2.cell b21
 replace b22 := Lw2.cell b22
 replace b30 := Lw2.cell b30
 replace b31 := Lw2.cell b31
 replace f_b30 := Lw2.frz z_b3 f_b30
 replace f_b31 := Lw2.frz z_b3 f_b31
 have b90 : w2.cell? ⟨w1.heap.size, 0, none⟩ = some (.slice afb5 cells.length cfb5) := by subst hW9; exact qCl
 have b91 : w2.cell? ⟨w1.heap.size, 1, none⟩ = some (.slice efb5 es.length dfb5) := by subst hW9; exact qCl
 have f_b90 : w2.frozen? ⟨w1.heap.size, 0, none⟩ = false := by subst hW9; exact qFz
 have f_b91 : w2.frozen? ⟨w1.heap.size, 1, none⟩ = false := by subst hW9; exact qFz
 have z_b1 : w.heap.size < w2.heap.size := qB b10
 have z_b2 : w.heap.size + 1 < w2.heap.size := qB b20
 have z_b3 : w.heap.size + 1 + 1 < w2.heap.size := qB b30
 have z_b9 : w1.heap.size < w2.heap.size := qB b90
 replace bf4 := bf4.ext Lw2
 have s_w2 : w.heap.size ≤ w2.heap.size := Xw2.size
 have BL8_w2 : Ext w1 w2 := BL8.trans Lw2
 clear hW9
 have Q10_b10 := Lib.hid b10
 have Q10_b11 := Lib.hid b11
 have Q10_zb1 := z_b1
 have Q10_b20 := Lib.hid b20
 have Q10_b21 := Lib.hid b21
 have Q10_b22 := Lib.hid b22
 have Q10_zb2 := z_b2
 have Q10_b30 := Lib.hid b30
 have Q10_f_b30 := Lib.hid f_b30
 have Q10_b31 := Lib.hid b31
 have Q10_f_b31 := Lib.hid f_b31
 have Q10_zb3 := z_b3
 have Q10_b90 := Lib.hid b90
 have Q10_f_b90 := Lib.hid f_b90
 have Q10_b91 := Lib.hid b91
 have Q10_f_b91 := Lib.hid f_b91
 have Q10_zb9 := z_b9
 have Q10_bf4 := Lib.hid bf4
 have BL11 : Ext w2 w2 := Ext.refl _
 refine wp_region_tail (S := fun w' => w'.cell? ⟨w.heap.size + 1, 0, none⟩ = some (.int .i64 b1) ∧ w'.cell? ⟨w.heap.size + 1, 1, none⟩ = some (.slice p2 s1.length c2) ∧ w'.cell? ⟨w.heap.size + 1, 2, none⟩ = some (.slice p3 t1.length c3) ∧ w'.cell? ⟨w1.heap.size, 1, none⟩ = some (.slice efb5 es.length dfb5)) (fun i => decide (9 ≤ i)) qKr ⟨b20, b21, b22, b91⟩ (fun hHeld => ?_)
 refine qTk (v := ?_) 0 rfl (.inl ⟨by rfl, ?_⟩) ?_
 rotate_left
 ·
  (intro w hSw; (try dsimp only at hSw); go_simp; try with_reducible rfl)
 try simp only [Act.put, qa, qb, qc, qD, qE, qF]
 refine qTk (v := ?_) 1 rfl (.inl ⟨by rfl, ?_⟩) ?_
 rotate_left
 ·
  (intro w hSw; (try dsimp only at hSw); go_simp; try with_reducible rfl)
 try simp only [Act.put, qa, qb, qc, qD, qE, qF]
 refine qTk (v := ?_) 2 rfl (.inl ⟨by rfl, ?_⟩) ?_
 rotate_left
 ·
  (intro w hSw; (try dsimp only at hSw); go_simp; try with_reducible rfl)
 try simp only [Act.put, qa, qb, qc, qD, qE, qF]
 refine qTk (v := ?_) 3 rfl (.inl ⟨by rfl, ?_⟩) ?_
 rotate_left
 ·
  (intro w hSw; (try dsimp only at hSw); go_simp; try with_reducible rfl)
 try simp only [Act.put, qa, qb, qc, qD, qE, qF]
 refine wpTail_one (i := 4) qKr rfl rfl (fun K hK => ?_)
 try simp only [Act.put, qa, qb, qc, qD, qE, qF]
 go_simp
 refine (scopyView_c b1 (.slice p2 s1.length c2) (.slice p3 t1.length c3) s1 t1 _ _ _ (k1.ext (Xw2.trans qXt)) (k2.ext (Xw2.trans qXt))).mono ?_
 rintro e w3 ⟨fv12u, fv12v, rfl, i13u, i13v, i13uz, i13vz, i13s, xw3⟩
 have Lw3 : Ext w2 w3 := Ext.trans qXt xw3
 have Xw3 : Ext w w3 := Xw2.trans Lw3
 replace b10 := Lw3.cell b10
 replace b11 := Lw3.cell b11
 replace b20 := Lw3.cell b20
 replace b21 := Lw3.cell b21
 replace b22 := Lw3.cell b22
 replace b30 := Lw3.cell b30
 replace b31 := Lw3.cell b31
 replace f_b30 := Lw3.frz z_b3 f_b30
 replace f_b31 := Lw3.frz z_b3 f_b31
 replace b90 := Lw3.cell b90
 replace b91 := Lw3.cell b91
 replace f_b90 := Lw3.frz z_b9 f_b90
 replace f_b91 := Lw3.frz z_b9 f_b91
 have z_b1 : w.heap.size < w3.heap.size := qB b10
 have z_b2 : w.heap.size + 1 < w3.heap.size := qB b20
 have z_b3 : w.heap.size + 1 + 1 < w3.heap.size := qB b30
 have z_b9 : w1.heap.size < w3.heap.size := qB b90
 replace bf4 := bf4.ext Lw3
 have s_w3 : w.heap.size ≤ w3.heap.size := Xw3.size
 have BL8_w3 : Ext w1 w3 := BL8_w2.trans Lw3
 have BL11_w3 : Ext w2 w3 := BL11.trans Lw3
 clear xw3
 try simp only [World.size_alloc, World.size_drew] at i13u
 try simp only [World.size_alloc, World.size_drew] at i13v
 try simp only [World.size_alloc, World.size_drew] at i13uz
 try simp only [World.size_alloc, World.size_drew] at i13vz
 obtain ⟨afv12u, cfv12u, rfl⟩ := i13u.form
 obtain ⟨afv12v, cfv12v, rfl⟩ := i13v.form
 replace i13s := Lib.hid i13s
 refine hK.out _ _ ⟨b20, b21, b22, b91⟩ (fun hHeld => ?_)
 clear hK K
 try simp only [Act.put, qa, qb, qc, qD, qE, qF]
 refine qTk (v := ?_) 5 rfl (.inl ⟨by rfl, ?_⟩) ?_
 rotate_left
 ·
  (intro w hSw; (try dsimp only at hSw); go_simp; try with_reducible rfl)
 try simp only [Act.put, qa, qb, qc, qD, qE, qF]
 refine wpTail_one (i := 6) qKr rfl rfl (fun K hK => ?_)
 try simp only [Act.put, qa, qb, qc, qD, qE, qF]
 go_simp
 refine hK.out _ (w3.alloc (.cells #[.int .i64 pr, .int .i64 b1, .slice afv12u s1.length cfv12u, .slice afv12v t1.length cfv12v, .bool true] TEXPORT)) ⟨(show Ext w3 (w3.alloc (.cells #[.int .i64 pr, .int .i64 b1, .slice afv12u s1.length cfv12u, .slice afv12v t1.length cfv12v, .bool true] TEXPORT)) from qXt).cell b20, (show Ext w3 (w3.alloc (.cells #[.int .i64 pr, .int .i64 b1, .slice afv12u s1.length cfv12u, .slice afv12v t1.length cfv12v, .bool true] TEXPORT)) from qXt).cell b21, (show Ext w3 (w3.alloc (.cells #[.int .i64 pr, .int .i64 b1, .slice afv12u s1.length cfv12u, .slice afv12v t1.length cfv12v, .bool true] TEXPORT)) from qXt).cell b22, (show Ext w3 (w3.alloc (.cells #[.int .i64 pr, .int .i64 b1, .slice afv12u s1.length cfv12u, .slice afv12v t1.length cfv12v, .bool true] TEXPORT)) from qXt).cell b91⟩ (fun hHeld => ?_)
 clear hK K
 try simp only [Act.put, qa, qb, qc, qD, qE, qF]
 refine wpTail_one (i := 7) qKr rfl rfl (fun K hK => ?_)
 have EE : Ext w3 ((w3).alloc (.cells #[.int .i64 pr, .int .i64 b1, .slice afv12u s1.length cfv12u, .slice afv12v t1.length cfv12v, .bool true] TEXPORT)) := qXt
 have SS : SrcR ((w3).alloc (.cells #[.int .i64 pr, .int .i64 b1, .slice afv12u s1.length cfv12u, .slice afv12v t1.length cfv12v, .bool true] TEXPORT)) 5 (.slice (some ⟨w3.heap.size, 0, none⟩) 1 1) 1 [.int .i64 pr, .int .i64 b1, .slice afv12u s1.length cfv12u, .slice afv12v t1.length cfv12v, .bool true] := src_one (w3) _ rfl (by intro u hu; simp only [List.mem_cons, List.not_mem_nil, or_false] at hu; rcases hu with rfl | rfl | rfl | rfl | rfl <;> rfl)
 refine step_appC Tryd.underlying32 infoExp rfl (by decide) rfl (.tmp 11) (.tmp 16) rfl rfl rfl (bf4.ex.row.ext EE) SS (by rw [cellsE_len]; omega) (by rw [cellsE_len]; omega) (by simp <;> omega) ?_
 intro vw4 w4 ho hgr hbl hv
 have hS : BufR w4 (w.heap.size + 1 + 1 + 1) (.slice afb5 cells.length cfb5) vw4 cells (es ++ [⟨pr, b1, s1, t1, true⟩]) (extR R6 es.length (.slice afv12u s1.length cfv12u) (.slice afv12v t1.length cfv12v)) := BufR.appL Q10_bf4.out (Ext.trans BL11_w3 EE) ((i13uz.ext EE).lower (by omega)) ((i13vz.ext EE).lower (by omega)) (by dsimp only; omega) (by dsimp only; omega) i13s.out (fun hs g hg => by obtain ⟨g7, h7, h8, h9⟩ := i13uz.lt hs; rw [hg] at h7; cases h7; omega) (fun hs g hg => by obtain ⟨g7, h7, h8, h9⟩ := i13vz.lt hs; rw [hg] at h7; cases h7; omega) (by omega) ho hgr hv
 replace hS : BufS w4 (w.heap.size + 1 + 1 + 1) (0) (w.heap.size + 1 + 1 + 1) (w1.heap.size) (w2.heap.size) (.slice afb5 cells.length cfb5) vw4 cells (es ++ [⟨pr, b1, s1, t1, true⟩]) (extR R6 es.length (.slice afv12u s1.length cfv12u) (.slice afv12v t1.length cfv12v)) := BufS.mk' (W := (w3).alloc (.cells #[.int .i64 pr, .int .i64 b1, .slice afv12u s1.length cfv12u, .slice afv12v t1.length cfv12v, .bool true] TEXPORT)) hS q_bf4.out ((fun hs g hg => .inr (by obtain ⟨g7, h7, h8, h9⟩ := i13uz.lt hs; rw [hg] at h7; cases h7; exact h8))) ((fun hs g hg => .inr (by obtain ⟨g7, h7, h8, h9⟩ := i13vz.lt hs; rw [hg] at h7; cases h7; exact h8))) (by rcases hv with h7 | h7; exact .inl h7; exact .inr h7) (by have h7 := (BL11_w3).size; simp; omega)
 obtain ⟨pa14, pc15, hpv⟩ := hS.buf.ex.len
 rw [List.length_append, List.length_singleton] at hpv
 subst hpv
 have Kw4 : Chg (w.heap.size + 1 + 1 + 1) (w1.heap.size) w3 w4 := chg_row hgr (fun g hg => by have h7 := q_bf4.out.e g hg; omega)
 have zc_w4 := Kw4.size
 clear ho hgr hbl hv EE SS
 have Xw4 : Ext w w4 := Ext.chg Xw3 Kw4 (by omega)
 replace b10 := Kw4.cell (by omega) b10
 replace b11 := Kw4.cell (by omega) b11
 replace b20 := Kw4.cell (by omega) b20
 replace b21 := Kw4.cell (by omega) b21
 replace b22 := Kw4.cell (by omega) b22
 replace b30 := Kw4.cell (by omega) b30
 replace f_b30 := Kw4.frzO (by omega) z_b3 f_b30
 replace b31 := Kw4.cell (by omega) b31
 replace f_b31 := Kw4.frzO (by omega) z_b3 f_b31
 replace b90 := Kw4.cell (by omega) b90
 replace f_b90 := Kw4.frzO (by omega) z_b9 f_b90
 replace b91 := Kw4.cell (by omega) b91
 replace f_b91 := Kw4.frzO (by omega) z_b9 f_b91
 have z_b1 : w.heap.size < w4.heap.size := qB b10
 have z_b2 : w.heap.size + 1 < w4.heap.size := qB b20
 have z_b3 : w.heap.size + 1 + 1 < w4.heap.size := qB b30
 have z_b9 : w1.heap.size < w4.heap.size := qB b90
 clear i13u
 clear i13v
 clear i13uz
 clear i13vz
 clear bf4 q_bf4
 have bf4 := hS
 clear hS Kw4
 have s_w4 : w.heap.size ≤ w4.heap.size := Xw4.size
 refine hK.out _ _ ⟨b20, b21, b22, b91⟩ (fun hHeld => ?_)
 clear hK K
 try simp only [Act.put, qa, qb, qc, qD, qE, qF]
 refine qTk (v := ?_) 8 rfl (.inl ⟨by rfl, ?_⟩) ?_
 rotate_left
 ·
  (intro w hSw; (try dsimp only at hSw); go_simp; try with_reducible rfl)
 try simp only [Act.put, qa, qb, qc, qD, qE, qF]
 refine wpTail_last (i := 9) qKr rfl rfl (fun K hK => ?_)
 try simp only [Act.put, qa, qb, qc, qD, qE, qF]
 go_simp
 refine hK.out _ _ ?_
 clear hK K
 try simp only [Act.put, qa, qb, qc, qD, qE, qF]
 refine wpTail_done qKr ?_ _
 clear hHeld 
 generalize hW10 : (w4.setCell ⟨w1.heap.size, 1, none⟩ (.slice pa14 (es.length + 1) pc15)) = w5 at *
 have Kw5 : Chg (w1.heap.size) (w1.heap.size + 1) w4 w5 := by subst hW10; exact qCh
 have Xw5 : Ext w w5 := by subst hW10; exact qXt
 replace b10 := Kw5.cell (by omega) b10
 replace b11 := Kw5.cell (by omega) b11
 replace b20 := Kw5.cell (by omega) b20
 replace b21 := Kw5.cell (by omega) b21
 replace b22 := Kw5.cell (by omega) b22
 replace b30 := Kw5.cell (by omega) b30
 replace f_b30 := Kw5.frzO (by omega) z_b3 f_b30
 replace b31 := Kw5.cell (by omega) b31
 replace f_b31 := Kw5.frzO (by omega) z_b3 f_b31
 replace b90 : w5.cell? ⟨w1.heap.size, 0, none⟩ = some (.slice afb5 cells.length cfb5) := by subst hW10; go_simp
 replace f_b90 : w5.frozen? ⟨w1.heap.size, 0, none⟩ = false := by subst hW10; first | (simp only [World.frozen?_setCell]; with_reducible assumption) | go_simp
 replace b91 : w5.cell? ⟨w1.heap.size, 1, none⟩ = some (.slice pa14 (es.length + 1) pc15) := by subst hW10; go_simp
 replace f_b91 : w5.frozen? ⟨w1.heap.size, 1, none⟩ = false := by subst hW10; first | (simp only [World.frozen?_setCell]; with_reducible assumption) | go_simp
 replace bf4 := bf4.chg Kw5 (by omega)
 clear Kw5
 have z_b1 : w.heap.size < w5.heap.size := qB b10
 have z_b2 : w.heap.size + 1 < w5.heap.size := qB b20
 have z_b3 : w.heap.size + 1 + 1 < w5.heap.size := qB b30
 have z_b9 : w1.heap.size < w5.heap.size := qB b90
 have s_w5 : w.heap.size ≤ w5.heap.size := Xw5.size
 clear hW10
 go_wp2_with fail
 generalize hW11 : ((w5.setCell ⟨w.heap.size + 1 + 1, 0, none⟩ (.slice afb5 cells.length cfb5)).setCell ⟨w.heap.size + 1 + 1, 1, none⟩ (.slice pa14 (es.length + 1) pc15)) = w6 at *
 have Kw6 : Chg (w.heap.size + 1 + 1) (w.heap.size + 1 + 1 + 1) w5 w6 := by subst hW11; exact qCh
 have Xw6 : Ext w w6 := by subst hW11; exact qXt
 replace b10 := Kw6.cell (by omega) b10
 replace b11 := Kw6.cell (by omega) b11
 replace b20 := Kw6.cell (by omega) b20
 replace b21 := Kw6.cell (by omega) b21
 replace b22 := Kw6.cell (by omega) b22
 replace b30 : w6.cell? ⟨w.heap.size + 1 + 1, 0, none⟩ = some (.slice afb5 cells.length cfb5) := by subst hW11; go_simp
 replace f_b30 : w6.frozen? ⟨w.heap.size + 1 + 1, 0, none⟩ = false := by subst hW11; first | (simp only [World.frozen?_setCell]; with_reducible assumption) | go_simp
 replace b31 : w6.cell? ⟨w.heap.size + 1 + 1, 1, none⟩ = some (.slice pa14 (es.length + 1) pc15) := by subst hW11; go_simp
 replace f_b31 : w6.frozen? ⟨w.heap.size + 1 + 1, 1, none⟩ = false := by subst hW11; first | (simp only [World.frozen?_setCell]; with_reducible assumption) | go_simp
 replace b90 := Kw6.cell (by omega) b90
 replace f_b90 := Kw6.frzO (by omega) z_b9 f_b90
 replace b91 := Kw6.cell (by omega) b91
 replace f_b91 := Kw6.frzO (by omega) z_b9 f_b91
 replace bf4 := bf4.chg Kw6 (by omega)
 clear Kw6
 have z_b1 : w.heap.size < w6.heap.size := qB b10
 have z_b2 : w.heap.size + 1 < w6.heap.size := qB b20
 have z_b3 : w.heap.size + 1 + 1 < w6.heap.size := qB b30
 have z_b9 : w1.heap.size < w6.heap.size := qB b90
 have s_w6 : w.heap.size ≤ w6.heap.size := Xw6.size
 clear hW11
 refine bodyPost_ret (v := .agg #[.slice afb5 cells.length cfb5, .slice pa14 (es.length + 1) pc15]) (by simp only [results, Tryd.results42]; go_simp) rfl ?_
 exact ⟨_, _, _, rfl, ((bf4.buf.ext qXt).lower (by omega)), (Xw6.trans qXt)⟩

set_option maxHeartbeats 3200000 in
theorem specExportView_c (cells : List Int) (es : List Exp) (cv ev : Value) (b1 : Int) (u1 v1 : Value) (s1 t1 : List Int) (w : World) (l1 l2 : Nat) (h1 : Ints w l1 cv cells) (h2 : Exps w l2 ev es) (l3 l4 : Nat) (k1 : Ints w l3 u1 s1) (k2 : Ints w l4 v1 t1) :
  Calls Tryd.prog 30 #[.agg #[cv, ev], .agg #[.int .i64 b1, u1, v1]] w (PBX w (expA cells es b1 s1 t1)) := by
 obtain ⟨p0, c0, rfl⟩ := h1.form
 obtain ⟨p1, c1, rfl⟩ := h2.form
 have he1 := h2.len
 have hc1 := h1.len
 obtain ⟨p2, c2, rfl⟩ := k1.form
 obtain ⟨p3, c3, rfl⟩ := k2.form
 have hk1 := k1.len
 have hk2 := k2.len
 go_enter Tryd.func30, Tryd.ntmps30
 go_wp2_with fail
 refine (validBuffer_c cells es (.slice p0 cells.length c0) (.slice p1 es.length c1) _ _ _ (h1.ext qXt) (h2.ext qXt)).mono ?_
 rintro e w1 ⟨rfl, xw1⟩
 have Lw1 : Ext w w1 := Ext.trans qXt xw1
 have Xw1 : Ext w w1 := Lw1
 have b10 : w1.cell? ⟨w.heap.size, 0, none⟩ = some (.slice p0 cells.length c0) := xw1.cell qCl
 have b11 : w1.cell? ⟨w.heap.size, 1, none⟩ = some (.slice p1 es.length c1) := xw1.cell qCl
 have b20 : w1.cell? ⟨w.heap.size + 1, 0, none⟩ = some (.int .i64 b1) := xw1.cell qCl
 have b21 : w1.cell? ⟨w.heap.size + 1, 1, none⟩ = some (.slice p2 s1.length c2) := xw1.cell qCl
 have b22 : w1.cell? ⟨w.heap.size + 1, 2, none⟩ = some (.slice p3 t1.length c3) := xw1.cell qCl
 have b30 : w1.cell? ⟨w.heap.size + 1 + 1, 0, none⟩ = some (.slice none 0 0) := xw1.cell qCl
 have b31 : w1.cell? ⟨w.heap.size + 1 + 1, 1, none⟩ = some (.slice none 0 0) := xw1.cell qCl
 have f_b30 : w1.frozen? ⟨w.heap.size + 1 + 1, 0, none⟩ = false := xw1.frz (by simp <;> omega) qFz
 have f_b31 : w1.frozen? ⟨w.heap.size + 1 + 1, 1, none⟩ = false := xw1.frz (by simp <;> omega) qFz
 have z_b1 : w.heap.size < w1.heap.size := qB b10
 have z_b2 : w.heap.size + 1 < w1.heap.size := qB b20
 have z_b3 : w.heap.size + 1 + 1 < w1.heap.size := qB b30
 have s_w1 : w.heap.size ≤ w1.heap.size := Xw1.size
 clear xw1
 cases hB4 : bufB cells es
 ·
  replace hB4 := Lib.hid hB4
  go_wp2_with fail
  generalize hW12 : ((w1.setCell ⟨w.heap.size + 1 + 1, 0, none⟩ (.slice none 0 0)).setCell ⟨w.heap.size + 1 + 1, 1, none⟩ (.slice none 0 0)) = w2 at *
  have Kw2 : Chg (w.heap.size + 1 + 1) (w.heap.size + 1 + 1 + 1) w1 w2 := by subst hW12; exact qCh
  have Xw2 : Ext w w2 := by subst hW12; exact qXt
  replace b10 := Kw2.cell (by omega) b10
  replace b11 := Kw2.cell (by omega) b11
  replace b20 := Kw2.cell (by omega) b20
  replace b21 := Kw2.cell (by omega) b21
  replace b22 := Kw2.cell (by omega) b22
  replace b30 : w2.cell? ⟨w.heap.size + 1 + 1, 0, none⟩ = some (.slice none 0 0) := by subst hW12; go_simp
  replace f_b30 : w2.frozen? ⟨w.heap.size + 1 + 1, 0, none⟩ = false := by subst hW12; first | (simp only [World.frozen?_setCell]; with_reducible assumption) | go_simp
  replace b31 : w2.cell? ⟨w.heap.size + 1 + 1, 1, none⟩ = some (.slice none 0 0) := by subst hW12; go_simp
  replace f_b31 : w2.frozen? ⟨w.heap.size + 1 + 1, 1, none⟩ = false := by subst hW12; first | (simp only [World.frozen?_setCell]; with_reducible assumption) | go_simp
  clear Kw2
  have z_b1 : w.heap.size < w2.heap.size := qB b10
  have z_b2 : w.heap.size + 1 < w2.heap.size := qB b20
  have z_b3 : w.heap.size + 1 + 1 < w2.heap.size := qB b30
  have s_w2 : w.heap.size ≤ w2.heap.size := Xw2.size
  clear hW12
  refine bodyPost_ret (v := .tuple #[.agg #[.slice none 0 0, .slice none 0 0], .bool false]) (by simp only [results, Tryd.results30]; go_simp) rfl ?_
  exact PBX.no (by unfold expA; rw [hB4.out]; rfl) (Xw2.trans qXt)
 ·
  replace hB4 := Lib.hid hB4
  have h88 := (bufB_in hB4.out).2.2.1
  go_wp2_with fail
  refine (validView_c b1 (.slice p2 s1.length c2) (.slice p3 t1.length c3) s1 t1 _ _ _ (k1.ext (Xw1.trans qXt)) (k2.ext (Xw1.trans qXt))).mono ?_
  rintro e w2 ⟨rfl, xw2⟩
  have Lw2 : Ext w1 w2 := Ext.trans qXt xw2
  have Xw2 : Ext w w2 := Xw1.trans Lw2
  replace b10 := Lw2.cell b10
  replace b11 := Lw2.cell b11
  replace b20 := Lw2.cell b20
  replace b21 := Lw2.cell b21
  replace b22 := Lw2.cell b22
  replace b30 := Lw2.cell b30
  replace b31 := Lw2.cell b31
  replace f_b30 := Lw2.frz z_b3 f_b30
  replace f_b31 := Lw2.frz z_b3 f_b31
  have z_b1 : w.heap.size < w2.heap.size := qB b10
  have z_b2 : w.heap.size + 1 < w2.heap.size := qB b20
  have z_b3 : w.heap.size + 1 + 1 < w2.heap.size := qB b30
  have s_w2 : w.heap.size ≤ w2.heap.size := Xw2.size
  clear xw2
  cases hB5 : viewB b1 s1 t1
  ·
   replace hB5 := Lib.hid hB5
   go_wp2_with fail
   generalize hW13 : ((w2.setCell ⟨w.heap.size + 1 + 1, 0, none⟩ (.slice none 0 0)).setCell ⟨w.heap.size + 1 + 1, 1, none⟩ (.slice none 0 0)) = w3 at *
   have Kw3 : Chg (w.heap.size + 1 + 1) (w.heap.size + 1 + 1 + 1) w2 w3 := by subst hW13; exact qCh
   have Xw3 : Ext w w3 := by subst hW13; exact qXt
   replace b10 := Kw3.cell (by omega) b10
   replace b11 := Kw3.cell (by omega) b11
   replace b20 := Kw3.cell (by omega) b20
   replace b21 := Kw3.cell (by omega) b21
   replace b22 := Kw3.cell (by omega) b22
   replace b30 : w3.cell? ⟨w.heap.size + 1 + 1, 0, none⟩ = some (.slice none 0 0) := by subst hW13; go_simp
   replace f_b30 : w3.frozen? ⟨w.heap.size + 1 + 1, 0, none⟩ = false := by subst hW13; first | (simp only [World.frozen?_setCell]; with_reducible assumption) | go_simp
   replace b31 : w3.cell? ⟨w.heap.size + 1 + 1, 1, none⟩ = some (.slice none 0 0) := by subst hW13; go_simp
   replace f_b31 : w3.frozen? ⟨w.heap.size + 1 + 1, 1, none⟩ = false := by subst hW13; first | (simp only [World.frozen?_setCell]; with_reducible assumption) | go_simp
   clear Kw3
   have z_b1 : w.heap.size < w3.heap.size := qB b10
   have z_b2 : w.heap.size + 1 < w3.heap.size := qB b20
   have z_b3 : w.heap.size + 1 + 1 < w3.heap.size := qB b30
   have s_w3 : w.heap.size ≤ w3.heap.size := Xw3.size
   clear hW13
   refine bodyPost_ret (v := .tuple #[.agg #[.slice none 0 0, .slice none 0 0], .bool false]) (by simp only [results, Tryd.results30]; go_simp) rfl ?_
   exact PBX.no (by unfold expA; rw [hB4.out, hB5.out]; rfl) (Xw3.trans qXt)
  ·
   replace hB5 := Lib.hid hB5
   go_wp2_with fail
   refine (fits_c b1 (.slice p2 s1.length c2) (.slice p3 t1.length c3) s1 t1 (cells.length : Int) _ _ _ (k1.ext (Xw2.trans qXt)) (k2.ext (Xw2.trans qXt)) hB5.out (by first | omega | exact (vw hB5.out).1 | exact (vw hB5.out).2.1 | exact (vw hB5.out).2.2.1 | exact (vw hB5.out).2.2.2) (by first | omega | exact (vw hB5.out).1 | exact (vw hB5.out).2.1 | exact (vw hB5.out).2.2.1 | exact (vw hB5.out).2.2.2)).mono ?_
   rintro e w3 ⟨rfl, xw3⟩
   have Lw3 : Ext w2 w3 := Ext.trans qXt xw3
   have Xw3 : Ext w w3 := Xw2.trans Lw3
   replace b10 := Lw3.cell b10
   replace b11 := Lw3.cell b11
   replace b20 := Lw3.cell b20
   replace b21 := Lw3.cell b21
   replace b22 := Lw3.cell b22
   replace b30 := Lw3.cell b30
   replace b31 := Lw3.cell b31
   replace f_b30 := Lw3.frz z_b3 f_b30
   replace f_b31 := Lw3.frz z_b3 f_b31
   have z_b1 : w.heap.size < w3.heap.size := qB b10
   have z_b2 : w.heap.size + 1 < w3.heap.size := qB b20
   have z_b3 : w.heap.size + 1 + 1 < w3.heap.size := qB b30
   have s_w3 : w.heap.size ≤ w3.heap.size := Xw3.size
   clear xw3
   cases hB6 : fitB b1 s1 t1 (cells.length : Int)
   ·
    replace hB6 := Lib.hid hB6
    go_wp2_with fail
    generalize hW14 : ((w3.setCell ⟨w.heap.size + 1 + 1, 0, none⟩ (.slice none 0 0)).setCell ⟨w.heap.size + 1 + 1, 1, none⟩ (.slice none 0 0)) = w4 at *
    have Kw4 : Chg (w.heap.size + 1 + 1) (w.heap.size + 1 + 1 + 1) w3 w4 := by subst hW14; exact qCh
    have Xw4 : Ext w w4 := by subst hW14; exact qXt
    replace b10 := Kw4.cell (by omega) b10
    replace b11 := Kw4.cell (by omega) b11
    replace b20 := Kw4.cell (by omega) b20
    replace b21 := Kw4.cell (by omega) b21
    replace b22 := Kw4.cell (by omega) b22
    replace b30 : w4.cell? ⟨w.heap.size + 1 + 1, 0, none⟩ = some (.slice none 0 0) := by subst hW14; go_simp
    replace f_b30 : w4.frozen? ⟨w.heap.size + 1 + 1, 0, none⟩ = false := by subst hW14; first | (simp only [World.frozen?_setCell]; with_reducible assumption) | go_simp
    replace b31 : w4.cell? ⟨w.heap.size + 1 + 1, 1, none⟩ = some (.slice none 0 0) := by subst hW14; go_simp
    replace f_b31 : w4.frozen? ⟨w.heap.size + 1 + 1, 1, none⟩ = false := by subst hW14; first | (simp only [World.frozen?_setCell]; with_reducible assumption) | go_simp
    clear Kw4
    have z_b1 : w.heap.size < w4.heap.size := qB b10
    have z_b2 : w.heap.size + 1 < w4.heap.size := qB b20
    have z_b3 : w.heap.size + 1 + 1 < w4.heap.size := qB b30
    have s_w4 : w.heap.size ≤ w4.heap.size := Xw4.size
    clear hW14
    refine bodyPost_ret (v := .tuple #[.agg #[.slice none 0 0, .slice none 0 0], .bool false]) (by simp only [results, Tryd.results30]; go_simp) rfl ?_
    exact PBX.no (by unfold expA; rw [hB4.out, hB5.out, hB6.out]; rfl) (Xw4.trans qXt)
   ·
    replace hB6 := Lib.hid hB6
    by_cases hc7 : (es.length : Int) = (8 : Int)
    ·
     have hc7e : ((es.length : Int) == (8 : Int)) = true := by simpa using hc7
     have hc7n : ((es.length : Int) != (8 : Int)) = false := by simpa using hc7
     replace hc7 := Lib.hid hc7
     go_wp2_with fail
     generalize hW15 : ((w3.setCell ⟨w.heap.size + 1 + 1, 0, none⟩ (.slice none 0 0)).setCell ⟨w.heap.size + 1 + 1, 1, none⟩ (.slice none 0 0)) = w4 at *
     have Kw4 : Chg (w.heap.size + 1 + 1) (w.heap.size + 1 + 1 + 1) w3 w4 := by subst hW15; exact qCh
     have Xw4 : Ext w w4 := by subst hW15; exact qXt
     replace b10 := Kw4.cell (by omega) b10
     replace b11 := Kw4.cell (by omega) b11
     replace b20 := Kw4.cell (by omega) b20
     replace b21 := Kw4.cell (by omega) b21
     replace b22 := Kw4.cell (by omega) b22
     replace b30 : w4.cell? ⟨w.heap.size + 1 + 1, 0, none⟩ = some (.slice none 0 0) := by subst hW15; go_simp
     replace f_b30 : w4.frozen? ⟨w.heap.size + 1 + 1, 0, none⟩ = false := by subst hW15; first | (simp only [World.frozen?_setCell]; with_reducible assumption) | go_simp
     replace b31 : w4.cell? ⟨w.heap.size + 1 + 1, 1, none⟩ = some (.slice none 0 0) := by subst hW15; go_simp
     replace f_b31 : w4.frozen? ⟨w.heap.size + 1 + 1, 1, none⟩ = false := by subst hW15; first | (simp only [World.frozen?_setCell]; with_reducible assumption) | go_simp
     clear Kw4
     have z_b1 : w.heap.size < w4.heap.size := qB b10
     have z_b2 : w.heap.size + 1 < w4.heap.size := qB b20
     have z_b3 : w.heap.size + 1 + 1 < w4.heap.size := qB b30
     have s_w4 : w.heap.size ≤ w4.heap.size := Xw4.size
     clear hW15
     refine bodyPost_ret (v := .tuple #[.agg #[.slice none 0 0, .slice none 0 0], .bool false]) (by simp only [results, Tryd.results30]; go_simp) rfl ?_
     exact PBX.no (by unfold expA; rw [hB4.out, hB5.out, hB6.out, decide_eq_false (show ¬ es.length < 8 by have h7 := hc7.out; omega)]; rfl) (Xw4.trans qXt)
    ·
     have hc7e : ((es.length : Int) == (8 : Int)) = false := by simpa using hc7
     have hc7n : ((es.length : Int) != (8 : Int)) = true := by simpa using hc7
     replace hc7 := Lib.hid hc7
     go_wp2_with fail
     have Q11_b10 := Lib.hid b10
     have Q11_b11 := Lib.hid b11
     have Q11_zb1 := z_b1
     have Q11_b20 := Lib.hid b20
     have Q11_b21 := Lib.hid b21
     have Q11_b22 := Lib.hid b22
     have Q11_zb2 := z_b2
     have Q11_b30 := Lib.hid b30
     have Q11_f_b30 := Lib.hid f_b30
     have Q11_b31 := Lib.hid b31
     have Q11_f_b31 := Lib.hid f_b31
     have Q11_zb3 := z_b3
     have BL12 : Ext w3 w3 := Ext.refl _
     refine (added_c cells es (.slice p0 cells.length c0) (.slice p1 es.length c1) (-1) b1 (.slice p2 s1.length c2) (.slice p3 t1.length c3) s1 t1 _ _ _ (h1.ext (Xw3.trans qXt)) (h2.ext (Xw3.trans qXt)) _ _ (k1.ext (Xw3.trans qXt)) (k2.ext (Xw3.trans qXt)) (by have h7 := hc7.out; omega)).mono ?_
     rintro e w4 ⟨cvfb9, evfb9, R10, rfl, bf8, xw4⟩
     have Lw4 : Ext w3 w4 := Ext.trans qXt xw4
     have Xw4 : Ext w w4 := Xw3.trans Lw4
     replace b10 := Lw4.cell b10
     replace b11 := Lw4.cell b11
     replace b20 := Lw4.cell b20
     replace b21 := Lw4.cell b21
     replace b22 := Lw4.cell b22
     replace b30 := Lw4.cell b30
     replace b31 := Lw4.cell b31
     replace f_b30 := Lw4.frz z_b3 f_b30
     replace f_b31 := Lw4.frz z_b3 f_b31
     have z_b1 : w.heap.size < w4.heap.size := qB b10
     have z_b2 : w.heap.size + 1 < w4.heap.size := qB b20
     have z_b3 : w.heap.size + 1 + 1 < w4.heap.size := qB b30
     have s_w4 : w.heap.size ≤ w4.heap.size := Xw4.size
     have BL12_w4 : Ext w3 w4 := BL12.trans Lw4
     clear xw4
     replace bf8 := bf8.lower (lo' := w3.heap.size) qSo
     obtain ⟨afb9, cfb9, rfl⟩ := bf8.ints.form
     obtain ⟨efb9, dfb9, hEfb9⟩ := bf8.exps.form
     rw [List.length_append, List.length_singleton] at hEfb9
     subst hEfb9
     have q_bf8 := Lib.hid bf8.at
     go_wp2_with fail
     generalize hW16 : ((w4.setCell ⟨w.heap.size + 1 + 1, 0, none⟩ (.slice afb9 cells.length cfb9)).setCell ⟨w.heap.size + 1 + 1, 1, none⟩ (.slice efb9 (es.length + 1) dfb9)) = w5 at *
     have Kw5 : Chg (w.heap.size + 1 + 1) (w.heap.size + 1 + 1 + 1) w4 w5 := by subst hW16; exact qCh
     have Xw5 : Ext w w5 := by subst hW16; exact qXt
     replace b10 := Kw5.cell (by omega) b10
     replace b11 := Kw5.cell (by omega) b11
     replace b20 := Kw5.cell (by omega) b20
     replace b21 := Kw5.cell (by omega) b21
     replace b22 := Kw5.cell (by omega) b22
     replace b30 : w5.cell? ⟨w.heap.size + 1 + 1, 0, none⟩ = some (.slice afb9 cells.length cfb9) := by subst hW16; go_simp
     replace f_b30 : w5.frozen? ⟨w.heap.size + 1 + 1, 0, none⟩ = false := by subst hW16; first | (simp only [World.frozen?_setCell]; with_reducible assumption) | go_simp
     replace b31 : w5.cell? ⟨w.heap.size + 1 + 1, 1, none⟩ = some (.slice efb9 (es.length + 1) dfb9) := by subst hW16; go_simp
     replace f_b31 : w5.frozen? ⟨w.heap.size + 1 + 1, 1, none⟩ = false := by subst hW16; first | (simp only [World.frozen?_setCell]; with_reducible assumption) | go_simp
     replace bf8 := bf8.chg Kw5 (by omega)
     clear Kw5
     have z_b1 : w.heap.size < w5.heap.size := qB b10
     have z_b2 : w.heap.size + 1 < w5.heap.size := qB b20
     have z_b3 : w.heap.size + 1 + 1 < w5.heap.size := qB b30
     have s_w5 : w.heap.size ≤ w5.heap.size := Xw5.size
     clear hW16
     refine bodyPost_ret (v := .tuple #[.agg #[.slice afb9 cells.length cfb9, .slice efb9 (es.length + 1) dfb9], .bool true]) (by simp only [results, Tryd.results30]; go_simp) rfl ?_
     exact PBX.yes (by unfold expA; rw [hB4.out, hB5.out, hB6.out, decide_eq_true (show es.length < 8 by have h7 := hc7.out; omega)]; rfl) ((bf8.ext qXt).lower (by omega)) (Xw5.trans qXt)


end Go.Proofs.YtgklaobfikbiiaaDoor

/- Walks: slices of the program. -/
namespace Go.Proofs.YtgklaobfikbiiaaDoor
open Go.RowKit
set_option linter.unusedVariables false
set_option maxRecDepth 100000

end Go.Proofs.YtgklaobfikbiiaaDoor

/- Walks: slices.Delete of one number of a row of one's own. -/
namespace Go.Proofs.YtgklaobfikbiiaaDoor
open Go.RowKit
set_option linter.unusedVariables false
set_option maxRecDepth 100000

theorem Ints.chgN {w w' : World} {lo l h g o n c : Nat} {xs : List Int} (I : Ints w lo (.slice (some ⟨g, o, none⟩) n c) xs) (k : Chg l h w w') (hg : g < l ∨ h ≤ g) : Ints w' lo (.slice (some ⟨g, o, none⟩) n c) xs := by
  obtain ⟨a', c', e, h1, h2, h3, h4⟩ := I
  cases e
  refine ⟨_, _, rfl, h1, h2, h3, fun i hi => ?_⟩
  obtain ⟨b, of, ha, hb, hc, hf⟩ := h4 i hi
  cases ha
  exact ⟨_, _, rfl, hb, k.cell hg hc, k.frzO hg (qB hc) hf⟩
/-- a call hands back a view and whether there is one -/
def PVWB (w : World) (b : Int) (s t : List Int) (ok : Bool) (e : Ending) (w' : World) : Prop := ∃ u v, e = .returned (.tuple #[.agg #[.int .i64 b, u, v], .bool ok]) ∧ Ints w' w.heap.size u s ∧ Ints w' w.heap.size v t ∧ Ext w w'
theorem PVWB.no {w w' : World} (h : Ext w w') : PVWB w 0 [] [] false (.returned (.tuple #[.agg #[.int .i64 0, .slice none 0 0, .slice none 0 0], .bool false])) w' :=
  ⟨_, _, rfl, Ints.nil _ _ _ _ (by simp) (fun _ => rfl), Ints.nil _ _ _ _ (by simp) (fun _ => rfl), h⟩
end Go.Proofs.YtgklaobfikbiiaaDoor

/- Walks: views without a dimension, of the program. -/
namespace Go.Proofs.YtgklaobfikbiiaaDoor
open Go.RowKit
set_option linter.unusedVariables false
set_option maxRecDepth 100000

end Go.Proofs.YtgklaobfikbiiaaDoor

/- Plain laws: views with their dimensions in another order. -/
namespace Go.Proofs.YtgklaobfikbiiaaDoor
open Go.RowKit
set_option linter.unusedVariables false
set_option maxRecDepth 100000

end Go.Proofs.YtgklaobfikbiiaaDoor

/- Plain laws: views without a dimension. -/
namespace Go.Proofs.YtgklaobfikbiiaaDoor
open Go.RowKit
set_option linter.unusedVariables false
set_option maxRecDepth 100000

end Go.Proofs.YtgklaobfikbiiaaDoor

/- Walks: PickDim of the program. -/
namespace Go.Proofs.YtgklaobfikbiiaaDoor
open Go.RowKit
set_option linter.unusedVariables false
set_option maxRecDepth 100000


end Go.Proofs.YtgklaobfikbiiaaDoor

/- Plain laws: what a slice takes of a dimension, as the program reckons it. -/
namespace Go.Proofs.YtgklaobfikbiiaaDoor
open Go.RowKit
set_option linter.unusedVariables false
set_option maxRecDepth 100000

end Go.Proofs.YtgklaobfikbiiaaDoor

/- Walks: sliceDim of the program. -/
namespace Go.Proofs.YtgklaobfikbiiaaDoor
open Go.RowKit
set_option linter.unusedVariables false
set_option maxRecDepth 100000


end Go.Proofs.YtgklaobfikbiiaaDoor

/- Walks: SliceDim of the program. -/
namespace Go.Proofs.YtgklaobfikbiiaaDoor
open Go.RowKit
set_option linter.unusedVariables false
set_option maxRecDepth 100000


end Go.Proofs.YtgklaobfikbiiaaDoor

/- Walks: SliceDim of the program, in rows of its own. -/
namespace Go.Proofs.YtgklaobfikbiiaaDoor
open Go.RowKit
set_option linter.unusedVariables false
set_option maxRecDepth 100000

end Go.Proofs.YtgklaobfikbiiaaDoor

/- Walks: ExportPart of both. -/
namespace Go.Proofs.YtgklaobfikbiiaaDoor
open Go.RowKit
set_option linter.unusedVariables false
set_option maxRecDepth 100000

set_option maxHeartbeats 6400000 in
theorem specExportPart_c (cells : List Int) (es : List Exp) (cv ev : Value) (i d F T B : Int) (hf ht : Bool) (w : World) (l1 l2 : Nat) (h1 : Ints w l1 cv cells) (h2 : Exps w l2 ev es) :
  Calls Tryd.prog 31 #[.agg #[cv, ev], .int .i64 i, .int .i64 d, .agg #[.int .i64 F, .int .i64 T, .int .i64 B, .bool hf, .bool ht]] w (PBX w (parA cells es i d F T B hf ht)) := by
 obtain ⟨p0, c0, rfl⟩ := h1.form
 obtain ⟨p1, c1, rfl⟩ := h2.form
 have he1 := h2.len
 have hc1 := h1.len
 go_enter Tryd.func31, Tryd.ntmps31
 go_wp2_with fail
 refine (validBuffer_c cells es (.slice p0 cells.length c0) (.slice p1 es.length c1) _ _ _ (h1.ext qXt) (h2.ext qXt)).mono ?_
 rintro e w1 ⟨rfl, xw1⟩
 have Lw1 : Ext w w1 := Ext.trans qXt xw1
 have Xw1 : Ext w w1 := Lw1
 have b10 : w1.cell? ⟨w.heap.size, 0, none⟩ = some (.slice p0 cells.length c0) := xw1.cell qCl
 have b11 : w1.cell? ⟨w.heap.size, 1, none⟩ = some (.slice p1 es.length c1) := xw1.cell qCl
 have b20 : w1.cell? ⟨w.heap.size + 1, 0, none⟩ = some (.int .i64 F) := xw1.cell qCl
 have b21 : w1.cell? ⟨w.heap.size + 1, 1, none⟩ = some (.int .i64 T) := xw1.cell qCl
 have b22 : w1.cell? ⟨w.heap.size + 1, 2, none⟩ = some (.int .i64 B) := xw1.cell qCl
 have b23 : w1.cell? ⟨w.heap.size + 1, 3, none⟩ = some (.bool hf) := xw1.cell qCl
 have b24 : w1.cell? ⟨w.heap.size + 1, 4, none⟩ = some (.bool ht) := xw1.cell qCl
 have b30 : w1.cell? ⟨w.heap.size + 1 + 1, 0, none⟩ = some (.slice none 0 0) := xw1.cell qCl
 have b31 : w1.cell? ⟨w.heap.size + 1 + 1, 1, none⟩ = some (.slice none 0 0) := xw1.cell qCl
 have f_b30 : w1.frozen? ⟨w.heap.size + 1 + 1, 0, none⟩ = false := xw1.frz (by simp <;> omega) qFz
 have f_b31 : w1.frozen? ⟨w.heap.size + 1 + 1, 1, none⟩ = false := xw1.frz (by simp <;> omega) qFz
 have z_b1 : w.heap.size < w1.heap.size := qB b10
 have z_b2 : w.heap.size + 1 < w1.heap.size := qB b20
 have z_b3 : w.heap.size + 1 + 1 < w1.heap.size := qB b30
 have s_w1 : w.heap.size ≤ w1.heap.size := Xw1.size
 clear xw1
 cases hB4 : bufB cells es
 ·
  replace hB4 := Lib.hid hB4
  go_wp2_with fail
  generalize hW1 : ((w1.setCell ⟨w.heap.size + 1 + 1, 0, none⟩ (.slice none 0 0)).setCell ⟨w.heap.size + 1 + 1, 1, none⟩ (.slice none 0 0)) = w2 at *
  have Kw2 : Chg (w.heap.size + 1 + 1) (w.heap.size + 1 + 1 + 1) w1 w2 := by subst hW1; exact qCh
  have Xw2 : Ext w w2 := by subst hW1; exact qXt
  replace b10 := Kw2.cell (by omega) b10
  replace b11 := Kw2.cell (by omega) b11
  replace b20 := Kw2.cell (by omega) b20
  replace b21 := Kw2.cell (by omega) b21
  replace b22 := Kw2.cell (by omega) b22
  replace b23 := Kw2.cell (by omega) b23
  replace b24 := Kw2.cell (by omega) b24
  replace b30 : w2.cell? ⟨w.heap.size + 1 + 1, 0, none⟩ = some (.slice none 0 0) := by subst hW1; go_simp
  replace f_b30 : w2.frozen? ⟨w.heap.size + 1 + 1, 0, none⟩ = false := by subst hW1; first | (simp only [World.frozen?_setCell]; with_reducible assumption) | go_simp
  replace b31 : w2.cell? ⟨w.heap.size + 1 + 1, 1, none⟩ = some (.slice none 0 0) := by subst hW1; go_simp
  replace f_b31 : w2.frozen? ⟨w.heap.size + 1 + 1, 1, none⟩ = false := by subst hW1; first | (simp only [World.frozen?_setCell]; with_reducible assumption) | go_simp
  clear Kw2
  have z_b1 : w.heap.size < w2.heap.size := qB b10
  have z_b2 : w.heap.size + 1 < w2.heap.size := qB b20
  have z_b3 : w.heap.size + 1 + 1 < w2.heap.size := qB b30
  have s_w2 : w.heap.size ≤ w2.heap.size := Xw2.size
  clear hW1
  refine bodyPost_ret (v := .tuple #[.agg #[.slice none 0 0, .slice none 0 0], .bool false]) (by simp only [results, Tryd.results31]; go_simp) rfl ?_
  exact PBX.no (by unfold parA; rw [(show (bufB cells es && opB es i) = false by rw [hB4.out]; rfl), Bool.false_and, Bool.false_and]; rfl) (Xw2.trans qXt)
 ·
  replace hB4 := Lib.hid hB4
  have hbb : Hid (bufB cells es = true) := Lib.hid hB4.out
  go_wp2_with fail
  refine (specIsOpen_c cells es (.slice p0 cells.length c0) (.slice p1 es.length c1) i _ _ _ (h1.ext (Xw1.trans qXt)) (h2.ext (Xw1.trans qXt))).mono ?_
  rintro e w2 ⟨rfl, xw2⟩
  have Lw2 : Ext w1 w2 := Ext.trans qXt xw2
  have Xw2 : Ext w w2 := Xw1.trans Lw2
  replace b10 := Lw2.cell b10
  replace b11 := Lw2.cell b11
  replace b20 := Lw2.cell b20
  replace b21 := Lw2.cell b21
  replace b22 := Lw2.cell b22
  replace b23 := Lw2.cell b23
  replace b24 := Lw2.cell b24
  replace b30 := Lw2.cell b30
  replace b31 := Lw2.cell b31
  replace f_b30 := Lw2.frz z_b3 f_b30
  replace f_b31 := Lw2.frz z_b3 f_b31
  have z_b1 : w.heap.size < w2.heap.size := qB b10
  have z_b2 : w.heap.size + 1 < w2.heap.size := qB b20
  have z_b3 : w.heap.size + 1 + 1 < w2.heap.size := qB b30
  have s_w2 : w.heap.size ≤ w2.heap.size := Xw2.size
  clear xw2
  cases hB5 : opB es i
  ·
   replace hB5 := Lib.hid hB5
   go_wp2_with fail
   generalize hW2 : ((w2.setCell ⟨w.heap.size + 1 + 1, 0, none⟩ (.slice none 0 0)).setCell ⟨w.heap.size + 1 + 1, 1, none⟩ (.slice none 0 0)) = w3 at *
   have Kw3 : Chg (w.heap.size + 1 + 1) (w.heap.size + 1 + 1 + 1) w2 w3 := by subst hW2; exact qCh
   have Xw3 : Ext w w3 := by subst hW2; exact qXt
   replace b10 := Kw3.cell (by omega) b10
   replace b11 := Kw3.cell (by omega) b11
   replace b20 := Kw3.cell (by omega) b20
   replace b21 := Kw3.cell (by omega) b21
   replace b22 := Kw3.cell (by omega) b22
   replace b23 := Kw3.cell (by omega) b23
   replace b24 := Kw3.cell (by omega) b24
   replace b30 : w3.cell? ⟨w.heap.size + 1 + 1, 0, none⟩ = some (.slice none 0 0) := by subst hW2; go_simp
   replace f_b30 : w3.frozen? ⟨w.heap.size + 1 + 1, 0, none⟩ = false := by subst hW2; first | (simp only [World.frozen?_setCell]; with_reducible assumption) | go_simp
   replace b31 : w3.cell? ⟨w.heap.size + 1 + 1, 1, none⟩ = some (.slice none 0 0) := by subst hW2; go_simp
   replace f_b31 : w3.frozen? ⟨w.heap.size + 1 + 1, 1, none⟩ = false := by subst hW2; first | (simp only [World.frozen?_setCell]; with_reducible assumption) | go_simp
   clear Kw3
   have z_b1 : w.heap.size < w3.heap.size := qB b10
   have z_b2 : w.heap.size + 1 < w3.heap.size := qB b20
   have z_b3 : w.heap.size + 1 + 1 < w3.heap.size := qB b30
   have s_w3 : w.heap.size ≤ w3.heap.size := Xw3.size
   clear hW2
   refine bodyPost_ret (v := .tuple #[.agg #[.slice none 0 0, .slice none 0 0], .bool false]) (by simp only [results, Tryd.results31]; go_simp) rfl ?_
   exact PBX.no (by unfold parA; rw [(show (bufB cells es && opB es i) = false by rw [hB5.out, Bool.and_false]), Bool.false_and, Bool.false_and]; rfl) (Xw3.trans qXt)
  ·
   replace hB5 := Lib.hid hB5
   have hop : Hid (opB es i = true) := Lib.hid hB5.out
   obtain ⟨hi0, hi1, hi2⟩ := opB_in hop.out
   obtain ⟨k, rfl⟩ : ∃ k : Nat, i = k := ⟨i.toNat, by omega⟩
   have hlt : k < es.length := by omega
   have hesne : Hid (es ≠ []) := Lib.hid (fun h => by rw [h] at hlt; exact absurd hlt (by simp))
   replace hi2 := Lib.hid hi2
   by_cases hc6 : (es.length : Int) = (8 : Int)
   ·
    have hc6e : ((es.length : Int) == (8 : Int)) = true := by simpa using hc6
    have hc6n : ((es.length : Int) != (8 : Int)) = false := by simpa using hc6
    replace hc6 := Lib.hid hc6
    go_wp2_with fail
    generalize hW3 : ((w2.setCell ⟨w.heap.size + 1 + 1, 0, none⟩ (.slice none 0 0)).setCell ⟨w.heap.size + 1 + 1, 1, none⟩ (.slice none 0 0)) = w3 at *
    have Kw3 : Chg (w.heap.size + 1 + 1) (w.heap.size + 1 + 1 + 1) w2 w3 := by subst hW3; exact qCh
    have Xw3 : Ext w w3 := by subst hW3; exact qXt
    replace b10 := Kw3.cell (by omega) b10
    replace b11 := Kw3.cell (by omega) b11
    replace b20 := Kw3.cell (by omega) b20
    replace b21 := Kw3.cell (by omega) b21
    replace b22 := Kw3.cell (by omega) b22
    replace b23 := Kw3.cell (by omega) b23
    replace b24 := Kw3.cell (by omega) b24
    replace b30 : w3.cell? ⟨w.heap.size + 1 + 1, 0, none⟩ = some (.slice none 0 0) := by subst hW3; go_simp
    replace f_b30 : w3.frozen? ⟨w.heap.size + 1 + 1, 0, none⟩ = false := by subst hW3; first | (simp only [World.frozen?_setCell]; with_reducible assumption) | go_simp
    replace b31 : w3.cell? ⟨w.heap.size + 1 + 1, 1, none⟩ = some (.slice none 0 0) := by subst hW3; go_simp
    replace f_b31 : w3.frozen? ⟨w.heap.size + 1 + 1, 1, none⟩ = false := by subst hW3; first | (simp only [World.frozen?_setCell]; with_reducible assumption) | go_simp
    clear Kw3
    have z_b1 : w.heap.size < w3.heap.size := qB b10
    have z_b2 : w.heap.size + 1 < w3.heap.size := qB b20
    have z_b3 : w.heap.size + 1 + 1 < w3.heap.size := qB b30
    have s_w3 : w.heap.size ≤ w3.heap.size := Xw3.size
    clear hW3
    refine bodyPost_ret (v := .tuple #[.agg #[.slice none 0 0, .slice none 0 0], .bool false]) (by simp only [results, Tryd.results31]; go_simp) rfl ?_
    exact PBX.no (by unfold parA; rw [decide_eq_false (show ¬ es.length < 8 from (by have h7 := hc6.out; omega)), Bool.and_false, Bool.false_and]; rfl) (Xw3.trans qXt)
   ·
    have hc6e : ((es.length : Int) == (8 : Int)) = false := by simpa using hc6
    have hc6n : ((es.length : Int) != (8 : Int)) = true := by simpa using hc6
    replace hc6 := Lib.hid hc6
    go_wp2_with fail
    have hN_x7 : k < es.length := hlt
    have hI_x7 : (k : Int) < (es.length : Int) := by omega
    obtain ⟨bl20, ol21, u14, c15, u16, c17, rfl, x70, x71, x72, x73, x74, i18, i19⟩ := h2.at k hN_x7
    obtain ⟨X13, hX13⟩ : ∃ x, expAt es k = x := ⟨_, rfl⟩
    rw [hX13] at x70 x71 x72 x73 x74 i18 i19
    obtain ⟨P8, B9, S10, T11, O12⟩ := X13
    dsimp only at x70 x71 x72 x73 x74 i18 i19
    replace hX13 := Lib.hid hX13
    have hLS10 := i18.len
    have hLT11 := i19.len
    have y_x7 : bl20 < w.heap.size := qB x70
    replace x70 := Xw2.cell x70
    replace x71 := Xw2.cell x71
    replace x72 := Xw2.cell x72
    replace x73 := Xw2.cell x73
    replace x74 := Xw2.cell x74
    have z_x7 : bl20 < w2.heap.size := qB x70
    have h88 := (bufB_in hbb.out).2.2.1
    obtain ⟨PB, PS, PT, PO, hP⟩ : ∃ PB PS PT PO, sliceV B9 S10 T11 d F T B hf ht = (PB, PS, PT, PO) := ⟨_, _, _, _, rfl⟩
    have hpl : PS.length ≤ 4 ∧ PT.length ≤ 4 := by have h7 := sliceV_fit B9 S10 T11 d F T B hf ht; rw [hP] at h7; exact ⟨h7.2, by have h8 := h7.1; have h9 := h7.2; dsimp only at h8 h9; omega⟩
    obtain ⟨hpl1, hpl2⟩ := hpl
    replace hP := Lib.hid hP
    cases PO
    ·
     go_wp2_with fail
     go_cut [10, 11] (fun s10 s11 wx => ∃ (g : Nat) (afv22u : Option Addr) (cfv22u : Nat) (afv22v : Option Addr) (cfv22v : Nat), s10 = .pointer (some ⟨g, 0, none⟩) ∧ s11 = .bool false ∧ Ext w2 wx ∧ w2.heap.size ≤ g ∧ wx.cell? ⟨g, 0, none⟩ = some (.int .i64 PB) ∧ wx.cell? ⟨g, 1, none⟩ = some (.slice afv22u PS.length cfv22u) ∧ wx.cell? ⟨g, 2, none⟩ = some (.slice afv22v PT.length cfv22v) ∧ wx.frozen? ⟨g, 0, none⟩ = false ∧ wx.frozen? ⟨g, 1, none⟩ = false ∧ wx.frozen? ⟨g, 2, none⟩ = false ∧ Ints wx w2.heap.size (.slice afv22u PS.length cfv22u) PS ∧ Ints wx w2.heap.size (.slice afv22v PT.length cfv22v) PT)
     case first =>
      have BD3 : Ext w2 w2 := Ext.refl _
      refine wp_region_held_drew (S := fun w' => w'.cell? ⟨w.heap.size, 0, none⟩ = some (.slice p0 cells.length c0) ∧ w'.cell? ⟨w.heap.size, 1, none⟩ = some (.slice (some ⟨bl20, ol21, none⟩) es.length c1) ∧ w'.cell? ⟨w.heap.size + 1, 0, none⟩ = some (.int .i64 F) ∧ w'.cell? ⟨w.heap.size + 1, 1, none⟩ = some (.int .i64 T) ∧ w'.cell? ⟨w.heap.size + 1, 2, none⟩ = some (.int .i64 B) ∧ w'.cell? ⟨w.heap.size + 1, 3, none⟩ = some (.bool hf) ∧ w'.cell? ⟨w.heap.size + 1, 4, none⟩ = some (.bool ht) ∧ w'.cell? ⟨w.heap.size + 1 + 1, 0, none⟩ = some (.slice none 0 0) ∧ w'.cell? ⟨w.heap.size + 1 + 1, 1, none⟩ = some (.slice none 0 0) ∧ w'.cell? ⟨bl20, ol21 + k * 5, none⟩ = some (.int .i64 P8) ∧ w'.cell? ⟨bl20, ol21 + k * 5 + 1, none⟩ = some (.int .i64 B9) ∧ w'.cell? ⟨bl20, ol21 + k * 5 + 2, none⟩ = some (.slice u14 S10.length c15) ∧ w'.cell? ⟨bl20, ol21 + k * 5 + 3, none⟩ = some (.slice u16 T11.length c17) ∧ w'.cell? ⟨bl20, ol21 + k * 5 + 4, none⟩ = some (.bool O12)) qKr ⟨b10, b11, b20, b21, b22, b23, b24, b30, b31, x70, x71, x72, x73, x74⟩ (fun hHeld => ?_)
      refine qHk (v := ?_) 0 rfl (.inl ⟨by rfl, ?_⟩) ?_
      rotate_left
      ·
       (intro w hSw; (try dsimp only at hSw); go_simp; try with_reducible rfl)
      try simp only [Act.put, qa, qb, qc, qD, qE, qF]
      refine qHk (v := ?_) 1 rfl (.inl ⟨by rfl, ?_⟩) ?_
      rotate_left
      ·
       (intro w hSw; (try dsimp only at hSw); go_simp; try with_reducible rfl)
      try simp only [Act.put, qa, qb, qc, qD, qE, qF]
      refine qHk (v := ?_) 2 rfl (.inl ⟨by rfl, ?_⟩) ?_
      rotate_left
      ·
       (intro w hSw; (try dsimp only at hSw); go_simp; try with_reducible rfl)
      try simp only [Act.put, qa, qb, qc, qD, qE, qF]
      refine qHk (v := ?_) 3 rfl (.inl ⟨by rfl, ?_⟩) ?_
      rotate_left
      ·
       (intro w hSw; (try dsimp only at hSw); go_simp; try with_reducible rfl)
      try simp only [Act.put, qa, qb, qc, qD, qE, qF]
      refine qHk (v := ?_) 4 rfl (.inl ⟨by rfl, ?_⟩) ?_
      rotate_left
      ·
       (intro w hSw; (try dsimp only at hSw); go_simp; try with_reducible rfl)
      try simp only [Act.put, qa, qb, qc, qD, qE, qF]
      refine qHk (v := ?_) 5 rfl (.inl ⟨by rfl, ?_⟩) ?_
      rotate_left
      ·
       (intro w hSw; (try dsimp only at hSw); go_simp; try with_reducible rfl)
      try simp only [Act.put, qa, qb, qc, qD, qE, qF]
      refine qHk (v := ?_) 6 rfl (.inl ⟨by rfl, ?_⟩) ?_
      rotate_left
      ·
       (intro w hSw; (try dsimp only at hSw); go_simp; try with_reducible rfl)
      try simp only [Act.put, qa, qb, qc, qD, qE, qF]
      refine qHk (v := ?_) 7 rfl (.inl ⟨by rfl, ?_⟩) ?_
      rotate_left
      ·
       (intro w hSw; (try dsimp only at hSw); go_simp; try with_reducible rfl)
      try simp only [Act.put, qa, qb, qc, qD, qE, qF]
      refine wpAnyH_ready (rs := [8, 12]) qKr (by simp) ?_
      refine AllReadyH.cons rfl (fun K hK => ?_) (AllReadyH.cons rfl (fun K hK => ?_) AllReadyH.nil)
      ·
       try simp only [Act.put, qa, qb, qc, qD, qE, qF]
       go_simp
       refine (pv_eq hP.out (specSliceDim_c B9 (.slice u14 S10.length c15) (.slice u16 T11.length c17) S10 T11 d F T B hf ht _ _ _ (i18.ext (Xw2.trans qXt)) (i19.ext (Xw2.trans qXt)))).mono ?_
       rintro e w3 ⟨fv22u, fv22v, rfl, i23u, i23v, -, -, -, xw3⟩
       have Lw3 : Ext w2 w3 := Ext.trans qXt xw3
       have Xw3 : Ext w w3 := Xw2.trans Lw3
       replace b10 := Lw3.cell b10
       replace b11 := Lw3.cell b11
       replace b20 := Lw3.cell b20
       replace b21 := Lw3.cell b21
       replace b22 := Lw3.cell b22
       replace b23 := Lw3.cell b23
       replace b24 := Lw3.cell b24
       replace b30 := Lw3.cell b30
       replace b31 := Lw3.cell b31
       replace f_b30 := Lw3.frz z_b3 f_b30
       replace f_b31 := Lw3.frz z_b3 f_b31
       replace x70 := Lw3.cell x70
       replace x71 := Lw3.cell x71
       replace x72 := Lw3.cell x72
       replace x73 := Lw3.cell x73
       replace x74 := Lw3.cell x74
       have z_b1 : w.heap.size < w3.heap.size := qB b10
       have z_b2 : w.heap.size + 1 < w3.heap.size := qB b20
       have z_b3 : w.heap.size + 1 + 1 < w3.heap.size := qB b30
       have z_x7 : bl20 < w3.heap.size := qB x70
       have s_w3 : w.heap.size ≤ w3.heap.size := Xw3.size
       have BD3_w3 : Ext w2 w3 := BD3.trans Lw3
       clear xw3
       try simp only [World.size_alloc, World.size_drew] at i23u
       try simp only [World.size_alloc, World.size_drew] at i23v
       obtain ⟨afv22u, cfv22u, rfl⟩ := i23u.form
       obtain ⟨afv22v, cfv22v, rfl⟩ := i23v.form
       have zD_w3 := (BD3_w3).size
       refine hK.out _ _ ⟨b10, b11, b20, b21, b22, b23, b24, b30, b31, x70, x71, x72, x73, x74⟩ (fun hHeld => ?_)
       clear hK K
       try simp only [Act.put, qa, qb, qc, qD, qE, qF]
       refine qHk (v := ?_) 9 rfl (.inl ⟨by rfl, ?_⟩) ?_
       rotate_left
       ·
        (intro w hSw; (try dsimp only at hSw); go_simp; try with_reducible rfl)
       try simp only [Act.put, qa, qb, qc, qD, qE, qF]
       refine qHk (v := ?_) 10 rfl (.inl ⟨by rfl, ?_⟩) ?_
       rotate_left
       ·
        (intro w hSw; (try dsimp only at hSw); go_simp; try with_reducible rfl)
       try simp only [Act.put, qa, qb, qc, qD, qE, qF]
       refine qHk (v := ?_) 11 rfl (.inl ⟨by rfl, ?_⟩) ?_
       rotate_left
       ·
        (intro w hSw; (try dsimp only at hSw); go_simp; try with_reducible rfl)
       try simp only [Act.put, qa, qb, qc, qD, qE, qF]
       refine qHr 12 rfl (fun K hK => ?_)
       try simp only [Act.put, qa, qb, qc, qD, qE, qF]
       go_simp
       have Q24_b10 := Lib.hid b10
       have Q24_b11 := Lib.hid b11
       have Q24_zb1 := z_b1
       have Q24_b20 := Lib.hid b20
       have Q24_b21 := Lib.hid b21
       have Q24_b22 := Lib.hid b22
       have Q24_b23 := Lib.hid b23
       have Q24_b24 := Lib.hid b24
       have Q24_zb2 := z_b2
       have Q24_b30 := Lib.hid b30
       have Q24_f_b30 := Lib.hid f_b30
       have Q24_b31 := Lib.hid b31
       have Q24_f_b31 := Lib.hid f_b31
       have Q24_zb3 := z_b3
       have Q24_x70 := Lib.hid x70
       have Q24_x71 := Lib.hid x71
       have Q24_x72 := Lib.hid x72
       have Q24_x73 := Lib.hid x73
       have Q24_x74 := Lib.hid x74
       have Q24_zx7 := z_x7
       have Q24_i23u := Lib.hid i23u
       have Q24_i23v := Lib.hid i23v
       have BL25 : Ext w3 w3 := Ext.refl _
       have Q26_b10 := Lib.hid b10
       have Q26_b11 := Lib.hid b11
       have Q26_zb1 := z_b1
       have Q26_b20 := Lib.hid b20
       have Q26_b21 := Lib.hid b21
       have Q26_b22 := Lib.hid b22
       have Q26_b23 := Lib.hid b23
       have Q26_b24 := Lib.hid b24
       have Q26_zb2 := z_b2
       have Q26_b30 := Lib.hid b30
       have Q26_f_b30 := Lib.hid f_b30
       have Q26_b31 := Lib.hid b31
       have Q26_f_b31 := Lib.hid f_b31
       have Q26_zb3 := z_b3
       have Q26_x70 := Lib.hid x70
       have Q26_x71 := Lib.hid x71
       have Q26_x72 := Lib.hid x72
       have Q26_x73 := Lib.hid x73
       have Q26_x74 := Lib.hid x74
       have Q26_zx7 := z_x7
       have Q26_i23u := Lib.hid i23u
       have Q26_i23v := Lib.hid i23v
       have BL27 : Ext w3 w3 := Ext.refl _
       refine hK.out _ _ ⟨(show Ext w3 _ from qXt).cell b10, (show Ext w3 _ from qXt).cell b11, (show Ext w3 _ from qXt).cell b20, (show Ext w3 _ from qXt).cell b21, (show Ext w3 _ from qXt).cell b22, (show Ext w3 _ from qXt).cell b23, (show Ext w3 _ from qXt).cell b24, (show Ext w3 _ from qXt).cell b30, (show Ext w3 _ from qXt).cell b31, (show Ext w3 _ from qXt).cell x70, (show Ext w3 _ from qXt).cell x71, (show Ext w3 _ from qXt).cell x72, (show Ext w3 _ from qXt).cell x73, (show Ext w3 _ from qXt).cell x74⟩ (fun hHeld => ?_)
       clear hK K
       try simp only [Act.put, qa, qb, qc, qD, qE, qF]
       refine qHr 13 rfl (fun K hK => ?_)
       try simp only [Act.put, qa, qb, qc, qD, qE, qF]
       go_simp
       have zn_BD3_w4 := (BD3_w3).size
       have zn_BL25_w4 := (BL25).size
       have zn_BL27_w4 := (BL27).size
       generalize hW4 : w3.alloc (.cells #[.int .i64 PB, .slice afv22u PS.length cfv22u, .slice afv22v PT.length cfv22v] 54) = w4 at *
       have Lw4 : Ext w3 w4 := by subst hW4; exact qXt
       have Xw4 : Ext w w4 := Xw3.trans Lw4
       replace b10 := Lw4.cell b10
       replace b11 := Lw4.cell b11
       replace b20 := Lw4.cell b20
       replace b21 := Lw4.cell b21
       replace b22 := Lw4.cell b22
       replace b23 := Lw4.cell b23
       replace b24 := Lw4.cell b24
       replace b30 := Lw4.cell b30
       replace b31 := Lw4.cell b31
       replace f_b30 := Lw4.frz z_b3 f_b30
       replace f_b31 := Lw4.frz z_b3 f_b31
       replace x70 := Lw4.cell x70
       replace x71 := Lw4.cell x71
       replace x72 := Lw4.cell x72
       replace x73 := Lw4.cell x73
       replace x74 := Lw4.cell x74
       have b280 : w4.cell? ⟨w3.heap.size, 0, none⟩ = some (.int .i64 PB) := by subst hW4; exact qCl
       have b281 : w4.cell? ⟨w3.heap.size, 1, none⟩ = some (.slice afv22u PS.length cfv22u) := by subst hW4; exact qCl
       have b282 : w4.cell? ⟨w3.heap.size, 2, none⟩ = some (.slice afv22v PT.length cfv22v) := by subst hW4; exact qCl
       have f_b280 : w4.frozen? ⟨w3.heap.size, 0, none⟩ = false := by subst hW4; exact qFz
       have f_b281 : w4.frozen? ⟨w3.heap.size, 1, none⟩ = false := by subst hW4; exact qFz
       have f_b282 : w4.frozen? ⟨w3.heap.size, 2, none⟩ = false := by subst hW4; exact qFz
       have z_b1 : w.heap.size < w4.heap.size := qB b10
       have z_b2 : w.heap.size + 1 < w4.heap.size := qB b20
       have z_b3 : w.heap.size + 1 + 1 < w4.heap.size := qB b30
       have z_x7 : bl20 < w4.heap.size := qB x70
       have z_b28 : w3.heap.size < w4.heap.size := qB b280
       replace i23u := i23u.ext Lw4
       replace i23v := i23v.ext Lw4
       have s_w4 : w.heap.size ≤ w4.heap.size := Xw4.size
       have BD3_w4 : Ext w2 w4 := BD3_w3.trans Lw4
       have BL25_w4 : Ext w3 w4 := BL25.trans Lw4
       have BL27_w4 : Ext w3 w4 := BL27.trans Lw4
       clear hW4
       refine hK.out _ _ ⟨b10, b11, b20, b21, b22, b23, b24, b30, b31, x70, x71, x72, x73, x74⟩ (fun hHeld => ?_)
       clear hK K
       try simp only [Act.put, qa, qb, qc, qD, qE, qF]
       refine qHk (v := ?_) 14 rfl (.inl ⟨by rfl, ?_⟩) ?_
       rotate_left
       ·
        (intro w hSw; (try dsimp only at hSw); go_simp; try with_reducible rfl)
       try simp only [Act.put, qa, qb, qc, qD, qE, qF]
       refine wpAnyH_done qKr ?_ _
       clear hHeld
       go_step
       go_step
       go_meet
       case rel => exact ⟨_, _, _, _, _, rfl, rfl, BD3_w4, (by omega), b280, b281, b282, f_b280, f_b281, f_b282, i23u.lower (by omega), i23v.lower (by omega)⟩
      ·
       try simp only [Act.put, qa, qb, qc, qD, qE, qF]
       go_simp
       have Q29_b10 := Lib.hid b10
       have Q29_b11 := Lib.hid b11
       have Q29_zb1 := z_b1
       have Q29_b20 := Lib.hid b20
       have Q29_b21 := Lib.hid b21
       have Q29_b22 := Lib.hid b22
       have Q29_b23 := Lib.hid b23
       have Q29_b24 := Lib.hid b24
       have Q29_zb2 := z_b2
       have Q29_b30 := Lib.hid b30
       have Q29_f_b30 := Lib.hid f_b30
       have Q29_b31 := Lib.hid b31
       have Q29_f_b31 := Lib.hid f_b31
       have Q29_zb3 := z_b3
       have Q29_x70 := Lib.hid x70
       have Q29_x71 := Lib.hid x71
       have Q29_x72 := Lib.hid x72
       have Q29_x73 := Lib.hid x73
       have Q29_x74 := Lib.hid x74
       have Q29_zx7 := z_x7
       have BL30 : Ext w2 w2 := Ext.refl _
       refine hK.out _ _ ⟨(show Ext w2 _ from qXt).cell b10, (show Ext w2 _ from qXt).cell b11, (show Ext w2 _ from qXt).cell b20, (show Ext w2 _ from qXt).cell b21, (show Ext w2 _ from qXt).cell b22, (show Ext w2 _ from qXt).cell b23, (show Ext w2 _ from qXt).cell b24, (show Ext w2 _ from qXt).cell b30, (show Ext w2 _ from qXt).cell b31, (show Ext w2 _ from qXt).cell x70, (show Ext w2 _ from qXt).cell x71, (show Ext w2 _ from qXt).cell x72, (show Ext w2 _ from qXt).cell x73, (show Ext w2 _ from qXt).cell x74⟩ (fun hHeld => ?_)
       clear hK K
       try simp only [Act.put, qa, qb, qc, qD, qE, qF]
       refine qHr 8 rfl (fun K hK => ?_)
       try simp only [Act.put, qa, qb, qc, qD, qE, qF]
       go_simp
       refine (pv_eq hP.out (specSliceDim_c B9 (.slice u14 S10.length c15) (.slice u16 T11.length c17) S10 T11 d F T B hf ht _ _ _ (i18.ext (Xw2.trans qXt)) (i19.ext (Xw2.trans qXt)))).mono ?_
       rintro e w3 ⟨fv32u, fv32v, rfl, i33u, i33v, -, -, -, xw3⟩
       have Lw3 : Ext w2 w3 := Ext.trans qXt xw3
       have Xw3 : Ext w w3 := Xw2.trans Lw3
       replace b10 := Lw3.cell b10
       replace b11 := Lw3.cell b11
       replace b20 := Lw3.cell b20
       replace b21 := Lw3.cell b21
       replace b22 := Lw3.cell b22
       replace b23 := Lw3.cell b23
       replace b24 := Lw3.cell b24
       replace b30 := Lw3.cell b30
       replace b31 := Lw3.cell b31
       replace f_b30 := Lw3.frz z_b3 f_b30
       replace f_b31 := Lw3.frz z_b3 f_b31
       replace x70 := Lw3.cell x70
       replace x71 := Lw3.cell x71
       replace x72 := Lw3.cell x72
       replace x73 := Lw3.cell x73
       replace x74 := Lw3.cell x74
       have b310 : w3.cell? ⟨w2.heap.size, 0, none⟩ = some (.int .i64 0) := xw3.cell qCl
       have b311 : w3.cell? ⟨w2.heap.size, 1, none⟩ = some (.slice none 0 0) := xw3.cell qCl
       have b312 : w3.cell? ⟨w2.heap.size, 2, none⟩ = some (.slice none 0 0) := xw3.cell qCl
       have f_b310 : w3.frozen? ⟨w2.heap.size, 0, none⟩ = false := xw3.frz (by simp <;> omega) qFz
       have f_b311 : w3.frozen? ⟨w2.heap.size, 1, none⟩ = false := xw3.frz (by simp <;> omega) qFz
       have f_b312 : w3.frozen? ⟨w2.heap.size, 2, none⟩ = false := xw3.frz (by simp <;> omega) qFz
       have z_b1 : w.heap.size < w3.heap.size := qB b10
       have z_b2 : w.heap.size + 1 < w3.heap.size := qB b20
       have z_b3 : w.heap.size + 1 + 1 < w3.heap.size := qB b30
       have z_x7 : bl20 < w3.heap.size := qB x70
       have z_b31 : w2.heap.size < w3.heap.size := qB b310
       have s_w3 : w.heap.size ≤ w3.heap.size := Xw3.size
       have BD3_w3 : Ext w2 w3 := BD3.trans Lw3
       have BL30_w3 : Ext w2 w3 := BL30.trans Lw3
       clear xw3
       try simp only [World.size_alloc, World.size_drew] at i33u
       try simp only [World.size_alloc, World.size_drew] at i33v
       obtain ⟨afv32u, cfv32u, rfl⟩ := i33u.form
       obtain ⟨afv32v, cfv32v, rfl⟩ := i33v.form
       have zD_w3 := (BD3_w3).size
       refine hK.out _ _ ⟨b10, b11, b20, b21, b22, b23, b24, b30, b31, x70, x71, x72, x73, x74⟩ (fun hHeld => ?_)
       clear hK K
       try simp only [Act.put, qa, qb, qc, qD, qE, qF]
       refine qHk (v := ?_) 9 rfl (.inl ⟨by rfl, ?_⟩) ?_
       rotate_left
       ·
        (intro w hSw; (try dsimp only at hSw); go_simp; try with_reducible rfl)
       try simp only [Act.put, qa, qb, qc, qD, qE, qF]
       refine qHk (v := ?_) 10 rfl (.inl ⟨by rfl, ?_⟩) ?_
       rotate_left
       ·
        (intro w hSw; (try dsimp only at hSw); go_simp; try with_reducible rfl)
       try simp only [Act.put, qa, qb, qc, qD, qE, qF]
       refine qHk (v := ?_) 11 rfl (.inl ⟨by rfl, ?_⟩) ?_
       rotate_left
       ·
        (intro w hSw; (try dsimp only at hSw); go_simp; try with_reducible rfl)
       try simp only [Act.put, qa, qb, qc, qD, qE, qF]
       refine qHr 13 rfl (fun K hK => ?_)
       try simp only [Act.put, qa, qb, qc, qD, qE, qF]
       go_simp
       generalize hW5 : (((w3.setCell ⟨w2.heap.size, 0, none⟩ (.int .i64 PB)).setCell ⟨w2.heap.size, 1, none⟩ (.slice afv32u PS.length cfv32u)).setCell ⟨w2.heap.size, 2, none⟩ (.slice afv32v PT.length cfv32v)) = w4 at *
       have Kw4 : Chg (w2.heap.size) (w2.heap.size + 1) w3 w4 := by subst hW5; exact qCh
       have Xw4 : Ext w w4 := by subst hW5; exact qXt
       have BD3_w4 : Ext w2 w4 := by subst hW5; exact qXt
       have BL30_w4 : Ext w2 w4 := by subst hW5; exact qXt
       replace b10 := BL30_w4.cell Q29_b10.out
       replace b11 := BL30_w4.cell Q29_b11.out
       replace b20 := BL30_w4.cell Q29_b20.out
       replace b21 := BL30_w4.cell Q29_b21.out
       replace b22 := BL30_w4.cell Q29_b22.out
       replace b23 := BL30_w4.cell Q29_b23.out
       replace b24 := BL30_w4.cell Q29_b24.out
       replace b30 := BL30_w4.cell Q29_b30.out
       replace f_b30 := BL30_w4.frz Q29_zb3 Q29_f_b30.out
       replace b31 := BL30_w4.cell Q29_b31.out
       replace f_b31 := BL30_w4.frz Q29_zb3 Q29_f_b31.out
       replace x70 := BL30_w4.cell Q29_x70.out
       replace x71 := BL30_w4.cell Q29_x71.out
       replace x72 := BL30_w4.cell Q29_x72.out
       replace x73 := BL30_w4.cell Q29_x73.out
       replace x74 := BL30_w4.cell Q29_x74.out
       replace b310 : w4.cell? ⟨w2.heap.size, 0, none⟩ = some (.int .i64 PB) := by subst hW5; go_simp
       replace f_b310 : w4.frozen? ⟨w2.heap.size, 0, none⟩ = false := by subst hW5; first | (simp only [World.frozen?_setCell]; with_reducible assumption) | go_simp
       replace b311 : w4.cell? ⟨w2.heap.size, 1, none⟩ = some (.slice afv32u PS.length cfv32u) := by subst hW5; go_simp
       replace f_b311 : w4.frozen? ⟨w2.heap.size, 1, none⟩ = false := by subst hW5; first | (simp only [World.frozen?_setCell]; with_reducible assumption) | go_simp
       replace b312 : w4.cell? ⟨w2.heap.size, 2, none⟩ = some (.slice afv32v PT.length cfv32v) := by subst hW5; go_simp
       replace f_b312 : w4.frozen? ⟨w2.heap.size, 2, none⟩ = false := by subst hW5; first | (simp only [World.frozen?_setCell]; with_reducible assumption) | go_simp
       replace i33u := i33u.chg Kw4 (by omega)
       replace i33v := i33v.chg Kw4 (by omega)
       clear Kw4
       have z_b1 : w.heap.size < w4.heap.size := qB b10
       have z_b2 : w.heap.size + 1 < w4.heap.size := qB b20
       have z_b3 : w.heap.size + 1 + 1 < w4.heap.size := qB b30
       have z_x7 : bl20 < w4.heap.size := qB x70
       have z_b31 : w2.heap.size < w4.heap.size := qB b310
       have s_w4 : w.heap.size ≤ w4.heap.size := Xw4.size
       clear hW5
       refine hK.out _ _ ⟨b10, b11, b20, b21, b22, b23, b24, b30, b31, x70, x71, x72, x73, x74⟩ (fun hHeld => ?_)
       clear hK K
       try simp only [Act.put, qa, qb, qc, qD, qE, qF]
       refine qHk (v := ?_) 14 rfl (.inl ⟨by rfl, ?_⟩) ?_
       rotate_left
       ·
        (intro w hSw; (try dsimp only at hSw); go_simp; try with_reducible rfl)
       try simp only [Act.put, qa, qb, qc, qD, qE, qF]
       refine wpAnyH_done qKr ?_ _
       clear hHeld
       go_step
       go_step
       go_meet
       case rel => exact ⟨_, _, _, _, _, rfl, rfl, BD3_w4, (by omega), b310, b311, b312, f_b310, f_b311, f_b312, i33u.lower (by omega), i33v.lower (by omega)⟩
     case rest =>
      generalize wc = wc35 at hcut ⊢
      obtain ⟨g36, af40, cf41, af42, cf43, rfl, rfl, xx37, hg_b34, b340, b341, b342, f_b340, f_b341, f_b342, i38, i39⟩ := hcut
      have Lwc35 : Ext w2 wc35 := Ext.trans qXt xx37
      have Xwc35 : Ext w wc35 := Xw2.trans Lwc35
      replace b10 := Lwc35.cell b10
      replace b11 := Lwc35.cell b11
      replace b20 := Lwc35.cell b20
      replace b21 := Lwc35.cell b21
      replace b22 := Lwc35.cell b22
      replace b23 := Lwc35.cell b23
      replace b24 := Lwc35.cell b24
      replace b30 := Lwc35.cell b30
      replace b31 := Lwc35.cell b31
      replace f_b30 := Lwc35.frz z_b3 f_b30
      replace f_b31 := Lwc35.frz z_b3 f_b31
      replace x70 := Lwc35.cell x70
      replace x71 := Lwc35.cell x71
      replace x72 := Lwc35.cell x72
      replace x73 := Lwc35.cell x73
      replace x74 := Lwc35.cell x74
      have z_b1 : w.heap.size < wc35.heap.size := qB b10
      have z_b2 : w.heap.size + 1 < wc35.heap.size := qB b20
      have z_b3 : w.heap.size + 1 + 1 < wc35.heap.size := qB b30
      have z_x7 : bl20 < wc35.heap.size := qB x70
      have s_wc35 : w.heap.size ≤ wc35.heap.size := Xwc35.size
      clear xx37
      have z_b34 : g36 < wc35.heap.size := qB b340
      go_wp2_with fail
      generalize hW6 : ((wc35.setCell ⟨w.heap.size + 1 + 1, 0, none⟩ (.slice none 0 0)).setCell ⟨w.heap.size + 1 + 1, 1, none⟩ (.slice none 0 0)) = w3 at *
      have Kw3 : Chg (w.heap.size + 1 + 1) (w.heap.size + 1 + 1 + 1) wc35 w3 := by subst hW6; exact qCh
      have Xw3 : Ext w w3 := by subst hW6; exact qXt
      replace b10 := Kw3.cell (by omega) b10
      replace b11 := Kw3.cell (by omega) b11
      replace b20 := Kw3.cell (by omega) b20
      replace b21 := Kw3.cell (by omega) b21
      replace b22 := Kw3.cell (by omega) b22
      replace b23 := Kw3.cell (by omega) b23
      replace b24 := Kw3.cell (by omega) b24
      replace b30 : w3.cell? ⟨w.heap.size + 1 + 1, 0, none⟩ = some (.slice none 0 0) := by subst hW6; go_simp
      replace f_b30 : w3.frozen? ⟨w.heap.size + 1 + 1, 0, none⟩ = false := by subst hW6; first | (simp only [World.frozen?_setCell]; with_reducible assumption) | go_simp
      replace b31 : w3.cell? ⟨w.heap.size + 1 + 1, 1, none⟩ = some (.slice none 0 0) := by subst hW6; go_simp
      replace f_b31 : w3.frozen? ⟨w.heap.size + 1 + 1, 1, none⟩ = false := by subst hW6; first | (simp only [World.frozen?_setCell]; with_reducible assumption) | go_simp
      replace x70 := Kw3.cell (by omega) x70
      replace x71 := Kw3.cell (by omega) x71
      replace x72 := Kw3.cell (by omega) x72
      replace x73 := Kw3.cell (by omega) x73
      replace x74 := Kw3.cell (by omega) x74
      replace b340 := Kw3.cell (by omega) b340
      replace f_b340 := Kw3.frzO (by omega) z_b34 f_b340
      replace b341 := Kw3.cell (by omega) b341
      replace f_b341 := Kw3.frzO (by omega) z_b34 f_b341
      replace b342 := Kw3.cell (by omega) b342
      replace f_b342 := Kw3.frzO (by omega) z_b34 f_b342
      replace i38 := i38.chg Kw3 (by omega)
      replace i39 := i39.chg Kw3 (by omega)
      clear Kw3
      have z_b1 : w.heap.size < w3.heap.size := qB b10
      have z_b2 : w.heap.size + 1 < w3.heap.size := qB b20
      have z_b3 : w.heap.size + 1 + 1 < w3.heap.size := qB b30
      have z_x7 : bl20 < w3.heap.size := qB x70
      have z_b34 : g36 < w3.heap.size := qB b340
      have s_w3 : w.heap.size ≤ w3.heap.size := Xw3.size
      clear hW6
      refine bodyPost_ret (v := .tuple #[.agg #[.slice none 0 0, .slice none 0 0], .bool false]) (by simp only [results, Tryd.results31]; go_simp) rfl ?_
      exact PBX.no (by unfold parA; simp only [Int.toNat_natCast]; rw [hX13.out]; dsimp only; rw [hP.out, Bool.and_false]; rfl) (Xw3.trans qXt)
    ·
     go_wp2_with fail
     go_cut [10, 11] (fun s10 s11 wx => ∃ (g : Nat) (afv44u : Option Addr) (cfv44u : Nat) (afv44v : Option Addr) (cfv44v : Nat), s10 = .pointer (some ⟨g, 0, none⟩) ∧ s11 = .bool true ∧ Ext w2 wx ∧ w2.heap.size ≤ g ∧ wx.cell? ⟨g, 0, none⟩ = some (.int .i64 PB) ∧ wx.cell? ⟨g, 1, none⟩ = some (.slice afv44u PS.length cfv44u) ∧ wx.cell? ⟨g, 2, none⟩ = some (.slice afv44v PT.length cfv44v) ∧ wx.frozen? ⟨g, 0, none⟩ = false ∧ wx.frozen? ⟨g, 1, none⟩ = false ∧ wx.frozen? ⟨g, 2, none⟩ = false ∧ Ints wx w2.heap.size (.slice afv44u PS.length cfv44u) PS ∧ Ints wx w2.heap.size (.slice afv44v PT.length cfv44v) PT)
     case first =>
      have BD3 : Ext w2 w2 := Ext.refl _
      refine wp_region_held_drew (S := fun w' => w'.cell? ⟨w.heap.size, 0, none⟩ = some (.slice p0 cells.length c0) ∧ w'.cell? ⟨w.heap.size, 1, none⟩ = some (.slice (some ⟨bl20, ol21, none⟩) es.length c1) ∧ w'.cell? ⟨w.heap.size + 1, 0, none⟩ = some (.int .i64 F) ∧ w'.cell? ⟨w.heap.size + 1, 1, none⟩ = some (.int .i64 T) ∧ w'.cell? ⟨w.heap.size + 1, 2, none⟩ = some (.int .i64 B) ∧ w'.cell? ⟨w.heap.size + 1, 3, none⟩ = some (.bool hf) ∧ w'.cell? ⟨w.heap.size + 1, 4, none⟩ = some (.bool ht) ∧ w'.cell? ⟨w.heap.size + 1 + 1, 0, none⟩ = some (.slice none 0 0) ∧ w'.cell? ⟨w.heap.size + 1 + 1, 1, none⟩ = some (.slice none 0 0) ∧ w'.cell? ⟨bl20, ol21 + k * 5, none⟩ = some (.int .i64 P8) ∧ w'.cell? ⟨bl20, ol21 + k * 5 + 1, none⟩ = some (.int .i64 B9) ∧ w'.cell? ⟨bl20, ol21 + k * 5 + 2, none⟩ = some (.slice u14 S10.length c15) ∧ w'.cell? ⟨bl20, ol21 + k * 5 + 3, none⟩ = some (.slice u16 T11.length c17) ∧ w'.cell? ⟨bl20, ol21 + k * 5 + 4, none⟩ = some (.bool O12)) qKr ⟨b10, b11, b20, b21, b22, b23, b24, b30, b31, x70, x71, x72, x73, x74⟩ (fun hHeld => ?_)
      refine qHk (v := ?_) 0 rfl (.inl ⟨by rfl, ?_⟩) ?_
      rotate_left
      ·
       (intro w hSw; (try dsimp only at hSw); go_simp; try with_reducible rfl)
      try simp only [Act.put, qa, qb, qc, qD, qE, qF]
      refine qHk (v := ?_) 1 rfl (.inl ⟨by rfl, ?_⟩) ?_
      rotate_left
      ·
       (intro w hSw; (try dsimp only at hSw); go_simp; try with_reducible rfl)
      try simp only [Act.put, qa, qb, qc, qD, qE, qF]
      refine qHk (v := ?_) 2 rfl (.inl ⟨by rfl, ?_⟩) ?_
      rotate_left
      ·
       (intro w hSw; (try dsimp only at hSw); go_simp; try with_reducible rfl)
      try simp only [Act.put, qa, qb, qc, qD, qE, qF]
      refine qHk (v := ?_) 3 rfl (.inl ⟨by rfl, ?_⟩) ?_
      rotate_left
      ·
       (intro w hSw; (try dsimp only at hSw); go_simp; try with_reducible rfl)
      try simp only [Act.put, qa, qb, qc, qD, qE, qF]
      refine qHk (v := ?_) 4 rfl (.inl ⟨by rfl, ?_⟩) ?_
      rotate_left
      ·
       (intro w hSw; (try dsimp only at hSw); go_simp; try with_reducible rfl)
      try simp only [Act.put, qa, qb, qc, qD, qE, qF]
      refine qHk (v := ?_) 5 rfl (.inl ⟨by rfl, ?_⟩) ?_
      rotate_left
      ·
       (intro w hSw; (try dsimp only at hSw); go_simp; try with_reducible rfl)
      try simp only [Act.put, qa, qb, qc, qD, qE, qF]
      refine qHk (v := ?_) 6 rfl (.inl ⟨by rfl, ?_⟩) ?_
      rotate_left
      ·
       (intro w hSw; (try dsimp only at hSw); go_simp; try with_reducible rfl)
      try simp only [Act.put, qa, qb, qc, qD, qE, qF]
      refine qHk (v := ?_) 7 rfl (.inl ⟨by rfl, ?_⟩) ?_
      rotate_left
      ·
       (intro w hSw; (try dsimp only at hSw); go_simp; try with_reducible rfl)
      try simp only [Act.put, qa, qb, qc, qD, qE, qF]
      refine wpAnyH_ready (rs := [8, 12]) qKr (by simp) ?_
      refine AllReadyH.cons rfl (fun K hK => ?_) (AllReadyH.cons rfl (fun K hK => ?_) AllReadyH.nil)
      ·
       try simp only [Act.put, qa, qb, qc, qD, qE, qF]
       go_simp
       refine (pv_eq hP.out (specSliceDim_c B9 (.slice u14 S10.length c15) (.slice u16 T11.length c17) S10 T11 d F T B hf ht _ _ _ (i18.ext (Xw2.trans qXt)) (i19.ext (Xw2.trans qXt)))).mono ?_
       rintro e w3 ⟨fv44u, fv44v, rfl, i45u, i45v, -, -, -, xw3⟩
       have Lw3 : Ext w2 w3 := Ext.trans qXt xw3
       have Xw3 : Ext w w3 := Xw2.trans Lw3
       replace b10 := Lw3.cell b10
       replace b11 := Lw3.cell b11
       replace b20 := Lw3.cell b20
       replace b21 := Lw3.cell b21
       replace b22 := Lw3.cell b22
       replace b23 := Lw3.cell b23
       replace b24 := Lw3.cell b24
       replace b30 := Lw3.cell b30
       replace b31 := Lw3.cell b31
       replace f_b30 := Lw3.frz z_b3 f_b30
       replace f_b31 := Lw3.frz z_b3 f_b31
       replace x70 := Lw3.cell x70
       replace x71 := Lw3.cell x71
       replace x72 := Lw3.cell x72
       replace x73 := Lw3.cell x73
       replace x74 := Lw3.cell x74
       have z_b1 : w.heap.size < w3.heap.size := qB b10
       have z_b2 : w.heap.size + 1 < w3.heap.size := qB b20
       have z_b3 : w.heap.size + 1 + 1 < w3.heap.size := qB b30
       have z_x7 : bl20 < w3.heap.size := qB x70
       have s_w3 : w.heap.size ≤ w3.heap.size := Xw3.size
       have BD3_w3 : Ext w2 w3 := BD3.trans Lw3
       clear xw3
       try simp only [World.size_alloc, World.size_drew] at i45u
       try simp only [World.size_alloc, World.size_drew] at i45v
       obtain ⟨afv44u, cfv44u, rfl⟩ := i45u.form
       obtain ⟨afv44v, cfv44v, rfl⟩ := i45v.form
       have zD_w3 := (BD3_w3).size
       refine hK.out _ _ ⟨b10, b11, b20, b21, b22, b23, b24, b30, b31, x70, x71, x72, x73, x74⟩ (fun hHeld => ?_)
       clear hK K
       try simp only [Act.put, qa, qb, qc, qD, qE, qF]
       refine qHk (v := ?_) 9 rfl (.inl ⟨by rfl, ?_⟩) ?_
       rotate_left
       ·
        (intro w hSw; (try dsimp only at hSw); go_simp; try with_reducible rfl)
       try simp only [Act.put, qa, qb, qc, qD, qE, qF]
       refine qHk (v := ?_) 10 rfl (.inl ⟨by rfl, ?_⟩) ?_
       rotate_left
       ·
        (intro w hSw; (try dsimp only at hSw); go_simp; try with_reducible rfl)
       try simp only [Act.put, qa, qb, qc, qD, qE, qF]
       refine qHk (v := ?_) 11 rfl (.inl ⟨by rfl, ?_⟩) ?_
       rotate_left
       ·
        (intro w hSw; (try dsimp only at hSw); go_simp; try with_reducible rfl)
       try simp only [Act.put, qa, qb, qc, qD, qE, qF]
       refine qHr 12 rfl (fun K hK => ?_)
       try simp only [Act.put, qa, qb, qc, qD, qE, qF]
       go_simp
       have Q46_b10 := Lib.hid b10
       have Q46_b11 := Lib.hid b11
       have Q46_zb1 := z_b1
       have Q46_b20 := Lib.hid b20
       have Q46_b21 := Lib.hid b21
       have Q46_b22 := Lib.hid b22
       have Q46_b23 := Lib.hid b23
       have Q46_b24 := Lib.hid b24
       have Q46_zb2 := z_b2
       have Q46_b30 := Lib.hid b30
       have Q46_f_b30 := Lib.hid f_b30
       have Q46_b31 := Lib.hid b31
       have Q46_f_b31 := Lib.hid f_b31
       have Q46_zb3 := z_b3
       have Q46_x70 := Lib.hid x70
       have Q46_x71 := Lib.hid x71
       have Q46_x72 := Lib.hid x72
       have Q46_x73 := Lib.hid x73
       have Q46_x74 := Lib.hid x74
       have Q46_zx7 := z_x7
       have Q46_i45u := Lib.hid i45u
       have Q46_i45v := Lib.hid i45v
       have BL47 : Ext w3 w3 := Ext.refl _
       have Q48_b10 := Lib.hid b10
       have Q48_b11 := Lib.hid b11
       have Q48_zb1 := z_b1
       have Q48_b20 := Lib.hid b20
       have Q48_b21 := Lib.hid b21
       have Q48_b22 := Lib.hid b22
       have Q48_b23 := Lib.hid b23
       have Q48_b24 := Lib.hid b24
       have Q48_zb2 := z_b2
       have Q48_b30 := Lib.hid b30
       have Q48_f_b30 := Lib.hid f_b30
       have Q48_b31 := Lib.hid b31
       have Q48_f_b31 := Lib.hid f_b31
       have Q48_zb3 := z_b3
       have Q48_x70 := Lib.hid x70
       have Q48_x71 := Lib.hid x71
       have Q48_x72 := Lib.hid x72
       have Q48_x73 := Lib.hid x73
       have Q48_x74 := Lib.hid x74
       have Q48_zx7 := z_x7
       have Q48_i45u := Lib.hid i45u
       have Q48_i45v := Lib.hid i45v
       have BL49 : Ext w3 w3 := Ext.refl _
       refine hK.out _ _ ⟨(show Ext w3 _ from qXt).cell b10, (show Ext w3 _ from qXt).cell b11, (show Ext w3 _ from qXt).cell b20, (show Ext w3 _ from qXt).cell b21, (show Ext w3 _ from qXt).cell b22, (show Ext w3 _ from qXt).cell b23, (show Ext w3 _ from qXt).cell b24, (show Ext w3 _ from qXt).cell b30, (show Ext w3 _ from qXt).cell b31, (show Ext w3 _ from qXt).cell x70, (show Ext w3 _ from qXt).cell x71, (show Ext w3 _ from qXt).cell x72, (show Ext w3 _ from qXt).cell x73, (show Ext w3 _ from qXt).cell x74⟩ (fun hHeld => ?_)
       clear hK K
       try simp only [Act.put, qa, qb, qc, qD, qE, qF]
       refine qHr 13 rfl (fun K hK => ?_)
       try simp only [Act.put, qa, qb, qc, qD, qE, qF]
       go_simp
       have zn_BD3_w4 := (BD3_w3).size
       have zn_BL47_w4 := (BL47).size
       have zn_BL49_w4 := (BL49).size
       generalize hW7 : w3.alloc (.cells #[.int .i64 PB, .slice afv44u PS.length cfv44u, .slice afv44v PT.length cfv44v] 54) = w4 at *
       have Lw4 : Ext w3 w4 := by subst hW7; exact qXt
       have Xw4 : Ext w w4 := Xw3.trans Lw4
       replace b10 := Lw4.cell b10
       replace b11 := Lw4.cell b11
       replace b20 := Lw4.cell b20
       replace b21 := Lw4.cell b21
       replace b22 := Lw4.cell b22
       replace b23 := Lw4.cell b23
       replace b24 := Lw4.cell b24
       replace b30 := Lw4.cell b30
       replace b31 := Lw4.cell b31
       replace f_b30 := Lw4.frz z_b3 f_b30
       replace f_b31 := Lw4.frz z_b3 f_b31
       replace x70 := Lw4.cell x70
       replace x71 := Lw4.cell x71
       replace x72 := Lw4.cell x72
       replace x73 := Lw4.cell x73
       replace x74 := Lw4.cell x74
       have b500 : w4.cell? ⟨w3.heap.size, 0, none⟩ = some (.int .i64 PB) := by subst hW7; exact qCl
       have b501 : w4.cell? ⟨w3.heap.size, 1, none⟩ = some (.slice afv44u PS.length cfv44u) := by subst hW7; exact qCl
       have b502 : w4.cell? ⟨w3.heap.size, 2, none⟩ = some (.slice afv44v PT.length cfv44v) := by subst hW7; exact qCl
       have f_b500 : w4.frozen? ⟨w3.heap.size, 0, none⟩ = false := by subst hW7; exact qFz
       have f_b501 : w4.frozen? ⟨w3.heap.size, 1, none⟩ = false := by subst hW7; exact qFz
       have f_b502 : w4.frozen? ⟨w3.heap.size, 2, none⟩ = false := by subst hW7; exact qFz
       have z_b1 : w.heap.size < w4.heap.size := qB b10
       have z_b2 : w.heap.size + 1 < w4.heap.size := qB b20
       have z_b3 : w.heap.size + 1 + 1 < w4.heap.size := qB b30
       have z_x7 : bl20 < w4.heap.size := qB x70
       have z_b50 : w3.heap.size < w4.heap.size := qB b500
       replace i45u := i45u.ext Lw4
       replace i45v := i45v.ext Lw4
       have s_w4 : w.heap.size ≤ w4.heap.size := Xw4.size
       have BD3_w4 : Ext w2 w4 := BD3_w3.trans Lw4
       have BL47_w4 : Ext w3 w4 := BL47.trans Lw4
       have BL49_w4 : Ext w3 w4 := BL49.trans Lw4
       clear hW7
       refine hK.out _ _ ⟨b10, b11, b20, b21, b22, b23, b24, b30, b31, x70, x71, x72, x73, x74⟩ (fun hHeld => ?_)
       clear hK K
       try simp only [Act.put, qa, qb, qc, qD, qE, qF]
       refine qHk (v := ?_) 14 rfl (.inl ⟨by rfl, ?_⟩) ?_
       rotate_left
       ·
        (intro w hSw; (try dsimp only at hSw); go_simp; try with_reducible rfl)
       try simp only [Act.put, qa, qb, qc, qD, qE, qF]
       refine wpAnyH_done qKr ?_ _
       clear hHeld
       go_step
       go_step
       go_meet
       case rel => exact ⟨_, _, _, _, _, rfl, rfl, BD3_w4, (by omega), b500, b501, b502, f_b500, f_b501, f_b502, i45u.lower (by omega), i45v.lower (by omega)⟩
      ·
       try simp only [Act.put, qa, qb, qc, qD, qE, qF]
       go_simp
       have Q51_b10 := Lib.hid b10
       have Q51_b11 := Lib.hid b11
       have Q51_zb1 := z_b1
       have Q51_b20 := Lib.hid b20
       have Q51_b21 := Lib.hid b21
       have Q51_b22 := Lib.hid b22
       have Q51_b23 := Lib.hid b23
       have Q51_b24 := Lib.hid b24
       have Q51_zb2 := z_b2
       have Q51_b30 := Lib.hid b30
       have Q51_f_b30 := Lib.hid f_b30
       have Q51_b31 := Lib.hid b31
       have Q51_f_b31 := Lib.hid f_b31
       have Q51_zb3 := z_b3
       have Q51_x70 := Lib.hid x70
       have Q51_x71 := Lib.hid x71
       have Q51_x72 := Lib.hid x72
       have Q51_x73 := Lib.hid x73
       have Q51_x74 := Lib.hid x74
       have Q51_zx7 := z_x7
       have BL52 : Ext w2 w2 := Ext.refl _
       refine hK.out _ _ ⟨(show Ext w2 _ from qXt).cell b10, (show Ext w2 _ from qXt).cell b11, (show Ext w2 _ from qXt).cell b20, (show Ext w2 _ from qXt).cell b21, (show Ext w2 _ from qXt).cell b22, (show Ext w2 _ from qXt).cell b23, (show Ext w2 _ from qXt).cell b24, (show Ext w2 _ from qXt).cell b30, (show Ext w2 _ from qXt).cell b31, (show Ext w2 _ from qXt).cell x70, (show Ext w2 _ from qXt).cell x71, (show Ext w2 _ from qXt).cell x72, (show Ext w2 _ from qXt).cell x73, (show Ext w2 _ from qXt).cell x74⟩ (fun hHeld => ?_)
       clear hK K
       try simp only [Act.put, qa, qb, qc, qD, qE, qF]
       refine qHr 8 rfl (fun K hK => ?_)
       try simp only [Act.put, qa, qb, qc, qD, qE, qF]
       go_simp
       refine (pv_eq hP.out (specSliceDim_c B9 (.slice u14 S10.length c15) (.slice u16 T11.length c17) S10 T11 d F T B hf ht _ _ _ (i18.ext (Xw2.trans qXt)) (i19.ext (Xw2.trans qXt)))).mono ?_
       rintro e w3 ⟨fv54u, fv54v, rfl, i55u, i55v, -, -, -, xw3⟩
       have Lw3 : Ext w2 w3 := Ext.trans qXt xw3
       have Xw3 : Ext w w3 := Xw2.trans Lw3
       replace b10 := Lw3.cell b10
       replace b11 := Lw3.cell b11
       replace b20 := Lw3.cell b20
       replace b21 := Lw3.cell b21
       replace b22 := Lw3.cell b22
       replace b23 := Lw3.cell b23
       replace b24 := Lw3.cell b24
       replace b30 := Lw3.cell b30
       replace b31 := Lw3.cell b31
       replace f_b30 := Lw3.frz z_b3 f_b30
       replace f_b31 := Lw3.frz z_b3 f_b31
       replace x70 := Lw3.cell x70
       replace x71 := Lw3.cell x71
       replace x72 := Lw3.cell x72
       replace x73 := Lw3.cell x73
       replace x74 := Lw3.cell x74
       have b530 : w3.cell? ⟨w2.heap.size, 0, none⟩ = some (.int .i64 0) := xw3.cell qCl
       have b531 : w3.cell? ⟨w2.heap.size, 1, none⟩ = some (.slice none 0 0) := xw3.cell qCl
       have b532 : w3.cell? ⟨w2.heap.size, 2, none⟩ = some (.slice none 0 0) := xw3.cell qCl
       have f_b530 : w3.frozen? ⟨w2.heap.size, 0, none⟩ = false := xw3.frz (by simp <;> omega) qFz
       have f_b531 : w3.frozen? ⟨w2.heap.size, 1, none⟩ = false := xw3.frz (by simp <;> omega) qFz
       have f_b532 : w3.frozen? ⟨w2.heap.size, 2, none⟩ = false := xw3.frz (by simp <;> omega) qFz
       have z_b1 : w.heap.size < w3.heap.size := qB b10
       have z_b2 : w.heap.size + 1 < w3.heap.size := qB b20
       have z_b3 : w.heap.size + 1 + 1 < w3.heap.size := qB b30
       have z_x7 : bl20 < w3.heap.size := qB x70
       have z_b53 : w2.heap.size < w3.heap.size := qB b530
       have s_w3 : w.heap.size ≤ w3.heap.size := Xw3.size
       have BD3_w3 : Ext w2 w3 := BD3.trans Lw3
       have BL52_w3 : Ext w2 w3 := BL52.trans Lw3
       clear xw3
       try simp only [World.size_alloc, World.size_drew] at i55u
       try simp only [World.size_alloc, World.size_drew] at i55v
       obtain ⟨afv54u, cfv54u, rfl⟩ := i55u.form
       obtain ⟨afv54v, cfv54v, rfl⟩ := i55v.form
       have zD_w3 := (BD3_w3).size
       refine hK.out _ _ ⟨b10, b11, b20, b21, b22, b23, b24, b30, b31, x70, x71, x72, x73, x74⟩ (fun hHeld => ?_)
       clear hK K
       try simp only [Act.put, qa, qb, qc, qD, qE, qF]
       refine qHk (v := ?_) 9 rfl (.inl ⟨by rfl, ?_⟩) ?_
       rotate_left
       ·
        (intro w hSw; (try dsimp only at hSw); go_simp; try with_reducible rfl)
       try simp only [Act.put, qa, qb, qc, qD, qE, qF]
       refine qHk (v := ?_) 10 rfl (.inl ⟨by rfl, ?_⟩) ?_
       rotate_left
       ·
        (intro w hSw; (try dsimp only at hSw); go_simp; try with_reducible rfl)
       try simp only [Act.put, qa, qb, qc, qD, qE, qF]
       refine qHk (v := ?_) 11 rfl (.inl ⟨by rfl, ?_⟩) ?_
       rotate_left
       ·
        (intro w hSw; (try dsimp only at hSw); go_simp; try with_reducible rfl)
       try simp only [Act.put, qa, qb, qc, qD, qE, qF]
       refine qHr 13 rfl (fun K hK => ?_)
       try simp only [Act.put, qa, qb, qc, qD, qE, qF]
       go_simp
       generalize hW8 : (((w3.setCell ⟨w2.heap.size, 0, none⟩ (.int .i64 PB)).setCell ⟨w2.heap.size, 1, none⟩ (.slice afv54u PS.length cfv54u)).setCell ⟨w2.heap.size, 2, none⟩ (.slice afv54v PT.length cfv54v)) = w4 at *
       have Kw4 : Chg (w2.heap.size) (w2.heap.size + 1) w3 w4 := by subst hW8; exact qCh
       have Xw4 : Ext w w4 := by subst hW8; exact qXt
       have BD3_w4 : Ext w2 w4 := by subst hW8; exact qXt
       have BL52_w4 : Ext w2 w4 := by subst hW8; exact qXt
       replace b10 := BL52_w4.cell Q51_b10.out
       replace b11 := BL52_w4.cell Q51_b11.out
       replace b20 := BL52_w4.cell Q51_b20.out
       replace b21 := BL52_w4.cell Q51_b21.out
       replace b22 := BL52_w4.cell Q51_b22.out
       replace b23 := BL52_w4.cell Q51_b23.out
       replace b24 := BL52_w4.cell Q51_b24.out
       replace b30 := BL52_w4.cell Q51_b30.out
       replace f_b30 := BL52_w4.frz Q51_zb3 Q51_f_b30.out
       replace b31 := BL52_w4.cell Q51_b31.out
       replace f_b31 := BL52_w4.frz Q51_zb3 Q51_f_b31.out
       replace x70 := BL52_w4.cell Q51_x70.out
       replace x71 := BL52_w4.cell Q51_x71.out
       replace x72 := BL52_w4.cell Q51_x72.out
       replace x73 := BL52_w4.cell Q51_x73.out
       replace x74 := BL52_w4.cell Q51_x74.out
       replace b530 : w4.cell? ⟨w2.heap.size, 0, none⟩ = some (.int .i64 PB) := by subst hW8; go_simp
       replace f_b530 : w4.frozen? ⟨w2.heap.size, 0, none⟩ = false := by subst hW8; first | (simp only [World.frozen?_setCell]; with_reducible assumption) | go_simp
       replace b531 : w4.cell? ⟨w2.heap.size, 1, none⟩ = some (.slice afv54u PS.length cfv54u) := by subst hW8; go_simp
       replace f_b531 : w4.frozen? ⟨w2.heap.size, 1, none⟩ = false := by subst hW8; first | (simp only [World.frozen?_setCell]; with_reducible assumption) | go_simp
       replace b532 : w4.cell? ⟨w2.heap.size, 2, none⟩ = some (.slice afv54v PT.length cfv54v) := by subst hW8; go_simp
       replace f_b532 : w4.frozen? ⟨w2.heap.size, 2, none⟩ = false := by subst hW8; first | (simp only [World.frozen?_setCell]; with_reducible assumption) | go_simp
       replace i55u := i55u.chg Kw4 (by omega)
       replace i55v := i55v.chg Kw4 (by omega)
       clear Kw4
       have z_b1 : w.heap.size < w4.heap.size := qB b10
       have z_b2 : w.heap.size + 1 < w4.heap.size := qB b20
       have z_b3 : w.heap.size + 1 + 1 < w4.heap.size := qB b30
       have z_x7 : bl20 < w4.heap.size := qB x70
       have z_b53 : w2.heap.size < w4.heap.size := qB b530
       have s_w4 : w.heap.size ≤ w4.heap.size := Xw4.size
       clear hW8
       refine hK.out _ _ ⟨b10, b11, b20, b21, b22, b23, b24, b30, b31, x70, x71, x72, x73, x74⟩ (fun hHeld => ?_)
       clear hK K
       try simp only [Act.put, qa, qb, qc, qD, qE, qF]
       refine qHk (v := ?_) 14 rfl (.inl ⟨by rfl, ?_⟩) ?_
       rotate_left
       ·
        (intro w hSw; (try dsimp only at hSw); go_simp; try with_reducible rfl)
       try simp only [Act.put, qa, qb, qc, qD, qE, qF]
       refine wpAnyH_done qKr ?_ _
       clear hHeld
       go_step
       go_step
       go_meet
       case rel => exact ⟨_, _, _, _, _, rfl, rfl, BD3_w4, (by omega), b530, b531, b532, f_b530, f_b531, f_b532, i55u.lower (by omega), i55v.lower (by omega)⟩
     case rest =>
      generalize wc = wc57 at hcut ⊢
      obtain ⟨g58, af62, cf63, af64, cf65, rfl, rfl, xx59, hg_b56, b560, b561, b562, f_b560, f_b561, f_b562, i60, i61⟩ := hcut
      have Lwc57 : Ext w2 wc57 := Ext.trans qXt xx59
      have Xwc57 : Ext w wc57 := Xw2.trans Lwc57
      replace b10 := Lwc57.cell b10
      replace b11 := Lwc57.cell b11
      replace b20 := Lwc57.cell b20
      replace b21 := Lwc57.cell b21
      replace b22 := Lwc57.cell b22
      replace b23 := Lwc57.cell b23
      replace b24 := Lwc57.cell b24
      replace b30 := Lwc57.cell b30
      replace b31 := Lwc57.cell b31
      replace f_b30 := Lwc57.frz z_b3 f_b30
      replace f_b31 := Lwc57.frz z_b3 f_b31
      replace x70 := Lwc57.cell x70
      replace x71 := Lwc57.cell x71
      replace x72 := Lwc57.cell x72
      replace x73 := Lwc57.cell x73
      replace x74 := Lwc57.cell x74
      have z_b1 : w.heap.size < wc57.heap.size := qB b10
      have z_b2 : w.heap.size + 1 < wc57.heap.size := qB b20
      have z_b3 : w.heap.size + 1 + 1 < wc57.heap.size := qB b30
      have z_x7 : bl20 < wc57.heap.size := qB x70
      have s_wc57 : w.heap.size ≤ wc57.heap.size := Xwc57.size
      clear xx59
      have z_b56 : g58 < wc57.heap.size := qB b560
      go_wp2_with fail
      have Q69_b10 := Lib.hid b10
      have Q69_b11 := Lib.hid b11
      have Q69_zb1 := z_b1
      have Q69_b20 := Lib.hid b20
      have Q69_b21 := Lib.hid b21
      have Q69_b22 := Lib.hid b22
      have Q69_b23 := Lib.hid b23
      have Q69_b24 := Lib.hid b24
      have Q69_zb2 := z_b2
      have Q69_b30 := Lib.hid b30
      have Q69_f_b30 := Lib.hid f_b30
      have Q69_b31 := Lib.hid b31
      have Q69_f_b31 := Lib.hid f_b31
      have Q69_zb3 := z_b3
      have Q69_x70 := Lib.hid x70
      have Q69_x71 := Lib.hid x71
      have Q69_x72 := Lib.hid x72
      have Q69_x73 := Lib.hid x73
      have Q69_x74 := Lib.hid x74
      have Q69_zx7 := z_x7
      have Q69_b560 := Lib.hid b560
      have Q69_f_b560 := Lib.hid f_b560
      have Q69_b561 := Lib.hid b561
      have Q69_f_b561 := Lib.hid f_b561
      have Q69_b562 := Lib.hid b562
      have Q69_f_b562 := Lib.hid f_b562
      have Q69_zb56 := z_b56
      have Q69_i60 := Lib.hid i60
      have Q69_i61 := Lib.hid i61
      have BL70 : Ext wc57 wc57 := Ext.refl _
      refine (added_c cells es (.slice p0 cells.length c0) (.slice (some ⟨bl20, ol21, none⟩) es.length c1) (k : Int) PB (.slice af62 PS.length cf63) (.slice af64 PT.length cf65) PS PT _ _ _ (h1.ext (Xwc57.trans qXt)) (h2.ext (Xwc57.trans qXt)) _ _ (i60.ext qXt) (i61.ext qXt) (by have h7 := hc6.out; omega)).mono ?_
      rintro e w3 ⟨cvfb67, evfb67, R68, rfl, bf66, xw3⟩
      have Lw3 : Ext wc57 w3 := Ext.trans qXt xw3
      have Xw3 : Ext w w3 := Xwc57.trans Lw3
      replace b10 := Lw3.cell b10
      replace b11 := Lw3.cell b11
      replace b20 := Lw3.cell b20
      replace b21 := Lw3.cell b21
      replace b22 := Lw3.cell b22
      replace b23 := Lw3.cell b23
      replace b24 := Lw3.cell b24
      replace b30 := Lw3.cell b30
      replace b31 := Lw3.cell b31
      replace f_b30 := Lw3.frz z_b3 f_b30
      replace f_b31 := Lw3.frz z_b3 f_b31
      replace x70 := Lw3.cell x70
      replace x71 := Lw3.cell x71
      replace x72 := Lw3.cell x72
      replace x73 := Lw3.cell x73
      replace x74 := Lw3.cell x74
      replace b560 := Lw3.cell b560
      replace b561 := Lw3.cell b561
      replace b562 := Lw3.cell b562
      replace f_b560 := Lw3.frz z_b56 f_b560
      replace f_b561 := Lw3.frz z_b56 f_b561
      replace f_b562 := Lw3.frz z_b56 f_b562
      have z_b1 : w.heap.size < w3.heap.size := qB b10
      have z_b2 : w.heap.size + 1 < w3.heap.size := qB b20
      have z_b3 : w.heap.size + 1 + 1 < w3.heap.size := qB b30
      have z_x7 : bl20 < w3.heap.size := qB x70
      have z_b56 : g58 < w3.heap.size := qB b560
      replace i60 := i60.ext Lw3
      replace i61 := i61.ext Lw3
      have s_w3 : w.heap.size ≤ w3.heap.size := Xw3.size
      have BL70_w3 : Ext wc57 w3 := BL70.trans Lw3
      clear xw3
      replace bf66 := bf66.lower (lo' := wc57.heap.size) qSo
      obtain ⟨afb67, cfb67, rfl⟩ := bf66.ints.form
      obtain ⟨efb67, dfb67, hEfb67⟩ := bf66.exps.form
      rw [List.length_append, List.length_singleton] at hEfb67
      subst hEfb67
      have q_bf66 := Lib.hid bf66.at
      go_wp2_with fail
      generalize hW9 : ((w3.setCell ⟨w.heap.size + 1 + 1, 0, none⟩ (.slice afb67 cells.length cfb67)).setCell ⟨w.heap.size + 1 + 1, 1, none⟩ (.slice efb67 (es.length + 1) dfb67)) = w4 at *
      have Kw4 : Chg (w.heap.size + 1 + 1) (w.heap.size + 1 + 1 + 1) w3 w4 := by subst hW9; exact qCh
      have Xw4 : Ext w w4 := by subst hW9; exact qXt
      replace b10 := Kw4.cell (by omega) b10
      replace b11 := Kw4.cell (by omega) b11
      replace b20 := Kw4.cell (by omega) b20
      replace b21 := Kw4.cell (by omega) b21
      replace b22 := Kw4.cell (by omega) b22
      replace b23 := Kw4.cell (by omega) b23
      replace b24 := Kw4.cell (by omega) b24
      replace b30 : w4.cell? ⟨w.heap.size + 1 + 1, 0, none⟩ = some (.slice afb67 cells.length cfb67) := by subst hW9; go_simp
      replace f_b30 : w4.frozen? ⟨w.heap.size + 1 + 1, 0, none⟩ = false := by subst hW9; first | (simp only [World.frozen?_setCell]; with_reducible assumption) | go_simp
      replace b31 : w4.cell? ⟨w.heap.size + 1 + 1, 1, none⟩ = some (.slice efb67 (es.length + 1) dfb67) := by subst hW9; go_simp
      replace f_b31 : w4.frozen? ⟨w.heap.size + 1 + 1, 1, none⟩ = false := by subst hW9; first | (simp only [World.frozen?_setCell]; with_reducible assumption) | go_simp
      replace x70 := Kw4.cell (by omega) x70
      replace x71 := Kw4.cell (by omega) x71
      replace x72 := Kw4.cell (by omega) x72
      replace x73 := Kw4.cell (by omega) x73
      replace x74 := Kw4.cell (by omega) x74
      replace b560 := Kw4.cell (by omega) b560
      replace f_b560 := Kw4.frzO (by omega) z_b56 f_b560
      replace b561 := Kw4.cell (by omega) b561
      replace f_b561 := Kw4.frzO (by omega) z_b56 f_b561
      replace b562 := Kw4.cell (by omega) b562
      replace f_b562 := Kw4.frzO (by omega) z_b56 f_b562
      replace i60 := i60.chg Kw4 (by omega)
      replace i61 := i61.chg Kw4 (by omega)
      replace bf66 := bf66.chg Kw4 (by omega)
      clear Kw4
      have z_b1 : w.heap.size < w4.heap.size := qB b10
      have z_b2 : w.heap.size + 1 < w4.heap.size := qB b20
      have z_b3 : w.heap.size + 1 + 1 < w4.heap.size := qB b30
      have z_x7 : bl20 < w4.heap.size := qB x70
      have z_b56 : g58 < w4.heap.size := qB b560
      have s_w4 : w.heap.size ≤ w4.heap.size := Xw4.size
      clear hW9
      refine bodyPost_ret (v := .tuple #[.agg #[.slice afb67 cells.length cfb67, .slice efb67 (es.length + 1) dfb67], .bool true]) (by simp only [results, Tryd.results31]; go_simp) rfl ?_
      have eqA : parA cells es (k : Int) d F T B hf ht = (cells, es ++ [⟨(k : Int), PB, PS, PT, true⟩], true) := by unfold parA; simp only [Int.toNat_natCast]; rw [hX13.out]; dsimp only; rw [hP.out, hbb.out, hop.out, decide_eq_true (show es.length < 8 from (by have h7 := hc6.out; omega))]; rfl
      exact PBX.yes eqA ((bf66.ext qXt).lower (by omega)) (Xw4.trans qXt)

end Go.Proofs.YtgklaobfikbiiaaDoor
