/- Texts of these proofs put together: SvK, SvM, BufI, BufJ, LvK, LvL, LvN, BufH, BufN, BufX, SliA, DelA, DelB, PureP, PureS, DelC, PureT, SliB, SliC, SliS. No condition. -/
import Derived.Test.YtfbbnbpobojboaaD2RowExportPart
import Derived.Test.YtfbbnbpobojboaaD1RowExportPart
import Derived.Test.YtfbbnbpobojboaaM1
set_option linter.unusedVariables false
set_option linter.unusedSimpArgs false
/- Walks: a drawn view. -/
namespace Go.Proofs.Ytfbbnbpobojboaa
open Go.RowKit
set_option linter.unusedVariables false
set_option maxRecDepth 100000


theorem VAt.open {B g : Nat} {w : World} {b : Int} {u v : Value} {s t : List Int} (h : VAt B g w b u v s t) : ∃ a1 c1 a2 c2, u = .slice a1 s.length c1 ∧ v = .slice a2 t.length c2 := by
  obtain ⟨a1, c1, h1⟩ := (h.o1.ints (by have := h.le; omega)).form
  obtain ⟨a2, c2, h2⟩ := (h.o2.ints (by have := h.le; have := h.fit; omega)).form
  exact ⟨a1, c1, a2, c2, h1, h2⟩

end Go.Proofs.Ytfbbnbpobojboaa

/- Walks: a drawn view that may be no view. -/
namespace Go.Proofs.Ytfbbnbpobojboaa
open Go.RowKit
set_option linter.unusedVariables false
set_option maxRecDepth 100000


theorem OwnZ.chgI {lo hi B : Nat} {w w' : World} {y : Value} {xs : List Int} (h : OwnZ w B y xs) (k : Chg lo hi w w') (hne : xs ≠ [] → ∀ g, y.ownBlock = some g → g < lo ∨ hi ≤ g) : OwnZ w' B y xs := by
  rcases h with ho | ho
  · exact .inl ho
  · by_cases hx : xs = []
    · subst hx
      rcases ho.2 with ⟨h2, _⟩ | ⟨g', cap, cur, rfl, hb, hh, r⟩
      · subst h2; exact .inl ⟨rfl, none, 0, rfl, by simp, fun _ => rfl⟩
      · exact .inl ⟨rfl, some ⟨g', 0, none⟩, cap, rfl, r.2.1, fun h => by cases h⟩
    · obtain ⟨g', cap, e, _⟩ := ho.row hx
      subst e
      exact .inr (ho.chgN k (hne hx g' rfl))
/-- a view that need be none lies in block gv -/
def SAt (rb q gv : Nat) (w wx : World) : Prop := ∃ (b : Int) (s t : List Int) (p1 p2 : Option Addr) (n1 r1 n2 r2 : Nat), wx.cell? ⟨gv, 0, none⟩ = some (.int .i64 b) ∧ wx.cell? ⟨gv, 1, none⟩ = some (.slice p1 n1 r1) ∧ wx.cell? ⟨gv, 2, none⟩ = some (.slice p2 n2 r2) ∧
  OwnZ wx (w.heap.size + 1) (.slice p1 n1 r1) s ∧ OwnZ wx (w.heap.size + 1) (.slice p2 n2 r2) t ∧ (s.length ≤ 4 ∧ t.length ≤ 5) ∧ VAt (w.heap.size + 1) w.heap.size wx 0 (.slice none 0 0) (.slice none 0 0) [] [] ∧ Rd wx rb q ∧ Rch rb w wx
theorem SAt.of {rb q gv : Nat} {w wx : World} {b : Int} {p1 p2 : Option Addr} {n1 r1 n2 r2 : Nat} {s t : List Int} (V : VAt (w.heap.size + 1) gv wx b (.slice p1 n1 r1) (.slice p2 n2 r2) s t) (Q : VAt (w.heap.size + 1) w.heap.size wx 0 (.slice none 0 0) (.slice none 0 0) [] []) (hr : Rd wx rb q) (X : Rch rb w wx) : SAt rb q gv w wx :=
  ⟨b, s, t, p1, p2, n1, r1, n2, r2, V.c0, V.c1, V.c2, V.o1, V.o2, ⟨V.le, by have := V.fit; have := V.le; omega⟩, Q, hr, X⟩
theorem SAt.put {rb q gv : Nat} {w w9 : World} {b : Int} {p1 p2 : Option Addr} {n1 r1 n2 r2 : Nat} {v2 : Value} {s t : List Int} (c0 : w9.cell? ⟨gv, 0, none⟩ = some (.int .i64 b)) (c1 : w9.cell? ⟨gv, 1, none⟩ = some (.slice p1 n1 r1)) (c2 : w9.cell? ⟨gv, 2, none⟩ = some v2) (f2 : w9.frozen? ⟨gv, 2, none⟩ = false)
    (o1 : OwnZ w9 (w.heap.size + 1) (.slice p1 n1 r1) s) (o2 : OwnZ w9 (w.heap.size + 1) (.slice p2 n2 r2) t) (m1 : s ≠ [] → ∀ g, (Value.slice p1 n1 r1).ownBlock = some g → g ≠ gv) (m2 : ∀ g, (Value.slice p2 n2 r2).ownBlock = some g → g ≠ gv) (hl : s.length ≤ 4 ∧ t.length ≤ 5)
    (Q : VAt (w.heap.size + 1) w.heap.size w9 0 (.slice none 0 0) (.slice none 0 0) [] []) (hr : Rd w9 rb q) (X : Rch rb w w9) (hg : w.heap.size < gv) (hrb : rb < w.heap.size) : SAt rb q gv w (w9.setCell ⟨gv, 2, none⟩ (.slice p2 n2 r2)) := by
  have k : Chg gv (gv + 1) w9 (w9.setCell ⟨gv, 2, none⟩ (.slice p2 n2 r2)) := (Chg.refl gv (gv + 1) w9).setCell (p := ⟨gv, 2, none⟩) (Nat.le_refl _) (Nat.lt_succ_self _) _
  exact ⟨b, s, t, p1, p2, n1, r1, n2, r2, by go_simp, by go_simp, by go_simp, o1.chgI k (fun h g hg' => by have := m1 h g hg'; omega), o2.chgI k (fun _ g hg' => by have := m2 g hg'; omega), hl,
    Q.chgB k (by omega) (fun h => absurd rfl h) (fun h => absurd rfl h), Rd.set2 (show rb < gv by omega) hr, X.set (show w.heap.size ≤ gv by omega) _⟩

end Go.Proofs.Ytfbbnbpobojboaa

/- Words for memory: buffers with one export more, with an export closed, with other cells. No condition. -/
namespace Go.Proofs.Ytfbbnbpobojboaa
open Go.RowKit
set_option linter.unusedVariables false
set_option maxRecDepth 100000

theorem chg_row {w w' : World} {o : Obj} {lo hi : Nat} {row : Option Nat} (hg : (w.alloc o).grownBy w' row) (hr : ∀ g, row = some g → lo ≤ g ∧ g < hi) : Chg lo hi w w' :=
  ⟨hg.os, hg.tape, hg.output, by have := hg.size; simp at this; omega, fun k hk hd => by
    have h1 := hg.block k (by simp; omega) (fun h => by have := hr k h.symm; omega)
    rw [h1]
    exact ((Ext.refl w).alloc o).block k hk⟩
section
variable {w w' W : World} {lo lo2 : Nat} {cv ev v' : Value} {cells : List Int} {es : List Exp} {R : Nat → Value} {e : Exp} {u1 u2 : Value}
theorem BufR.appG (h : BufR W lo cv ev cells es R) (hl : lo2 ≤ lo) (hE : ExpR w' lo2 v' (es ++ [e]) (extR R es.length u1 u2)) (hn : es.length + 1 ≤ 1048576)
    (c1 : e.s ≠ [] → cells ≠ [] → u1.ownBlock ≠ cv.ownBlock) (c2 : e.t ≠ [] → cells ≠ [] → u2.ownBlock ≠ cv.ownBlock)
    (hg : W.grownBy w' ev.ownBlock) (hv : v'.ownBlock = ev.ownBlock ∨ v'.ownBlock = some W.heap.size) : BufR w' lo2 cv v' cells (es ++ [e]) (extR R es.length u1 u2) := by
  refine ⟨(h.cel.lower hl).keptG h.cl hg h.offc, hE, h.cl, by simpa using hn, fun hc => ?_, fun p hp hs hc => ?_⟩
  · rcases hv with hv | hv
    · rw [hv]; exact h.offc hc
    · obtain ⟨g, hg1, -, hlt⟩ := h.cel.lt hc
      rw [hg1, hv]
      intro h2
      have := Option.some.inj h2
      omega
  · have hpl : p < 2 * es.length ∨ p = 2 * es.length ∨ p = 2 * es.length + 1 := by
      rw [List.length_append, List.length_singleton] at hp; omega
    rcases hpl with hp | rfl | rfl
    · rw [extR_old hp]; rw [rowAt_app hp] at hs; exact h.offr p hp hs hc
    · rw [extR_a]; rw [rowAt_even, expAt_app2] at hs; exact c1 hs hc
    · rw [extR_b]; rw [rowAt_odd, expAt_app2] at hs; exact c2 hs hc
/-- one export more, whose rows came up before the buffer -/
theorem BufR.app (h : BufR W lo cv ev cells es R) (hl : lo2 ≤ lo) (o1 : OwnZ W lo2 u1 e.s) (o2 : OwnZ W lo2 u2 e.t) (l1 : e.s.length ≤ 4194304) (l2 : e.t.length ≤ 4194304)
    (hd : e.s ≠ [] → e.t ≠ [] → u1.ownBlock ≠ u2.ownBlock) (m1 : e.s ≠ [] → ∀ g, u1.ownBlock = some g → g < lo) (m2 : e.t ≠ [] → ∀ g, u2.ownBlock = some g → g < lo) (hn : es.length + 1 ≤ 1048576)
    (h1 : OwnC w' lo TEXPORT 5 v' (cellsE es R ++ [eCells e u1 u2])) (hg : W.grownBy w' ev.ownBlock) (hv : v'.ownBlock = ev.ownBlock ∨ v'.ownBlock = some W.heap.size) :
    BufR w' lo2 cv v' cells (es ++ [e]) (extR R es.length u1 u2) := by
  refine h.appG hl (h.ex.snocB hl o1 o2 l1 l2 hd m1 m2 h1 hg hv) hn ?_ ?_ hg hv
  · intro hs hc h2
    obtain ⟨g, hg1, hb, -⟩ := h.cel.lt hc
    have := m1 hs g (by rw [h2]; exact hg1); omega
  · intro hs hc h2
    obtain ⟨g, hg1, hb, -⟩ := h.cel.lt hc
    have := m2 hs g (by rw [h2]; exact hg1); omega
/-- one export more, whose rows came up later -/
theorem BufR.appL (h0 : BufR w lo cv ev cells es R) (hx : Ext w W) (o1 : OwnZ W lo u1 e.s) (o2 : OwnZ W lo u2 e.t) (l1 : e.s.length ≤ 4194304) (l2 : e.t.length ≤ 4194304)
    (hd : e.s ≠ [] → e.t ≠ [] → u1.ownBlock ≠ u2.ownBlock) (m1 : e.s ≠ [] → ∀ g, u1.ownBlock = some g → w.heap.size ≤ g) (m2 : e.t ≠ [] → ∀ g, u2.ownBlock = some g → w.heap.size ≤ g) (hn : es.length + 1 ≤ 1048576)
    (h1 : OwnC w' lo TEXPORT 5 v' (cellsE es R ++ [eCells e u1 u2])) (hg : W.grownBy w' ev.ownBlock) (hv : v'.ownBlock = ev.ownBlock ∨ v'.ownBlock = some W.heap.size) :
    BufR w' lo cv v' cells (es ++ [e]) (extR R es.length u1 u2) := by
  refine (h0.ext hx).appG (Nat.le_refl _) (h0.ex.snoc hx o1 o2 l1 l2 hd m1 m2 h1 hg hv) hn ?_ ?_ hg hv
  · intro hs hc h2
    obtain ⟨g, hg1, hb, hlt⟩ := h0.cel.lt hc
    have := m1 hs g (by rw [h2]; exact hg1); omega
  · intro hs hc h2
    obtain ⟨g, hg1, hb, hlt⟩ := h0.cel.lt hc
    have := m2 hs g (by rw [h2]; exact hg1); omega
end
/-- where the rows of a buffer lie -/
structure BufAt (P : Nat → Prop) (cv ev : Value) (cells : List Int) (es : List Exp) (R : Nat → Value) : Prop where
  c : cells ≠ [] → ∀ g, cv.ownBlock = some g → P g
  e : ∀ g, ev.ownBlock = some g → P g
  r : ∀ p, p < 2 * es.length → rowAt es p ≠ [] → ∀ g, (R p).ownBlock = some g → P g
/-- a buffer in rows below m, from lo up to m2, and from lo3 on -/
structure BufS (w : World) (lo2 m lo m2 lo3 : Nat) (cv ev : Value) (cells : List Int) (es : List Exp) (R : Nat → Value) : Prop where
  buf : BufR w lo2 cv ev cells es R
  loc : BufAt (fun g => g < m ∨ (lo ≤ g ∧ g < m2) ∨ lo3 ≤ g) cv ev cells es R
section
variable {w w' W : World} {lo lo2 m m2 lo3 : Nat} {cv ev v' : Value} {cells : List Int} {es : List Exp} {R : Nat → Value} {e : Exp} {u1 u2 : Value}
theorem BufR.at (h : BufR w lo cv ev cells es R) : BufAt (fun g => lo ≤ g ∧ g < w.heap.size) cv ev cells es R :=
  ⟨fun hc g hg => by obtain ⟨g', h1, h2, h3⟩ := h.cel.lt hc; rw [hg] at h1; cases h1; exact ⟨h2, h3⟩, fun g hg => h.ex.blk g hg,
   fun p hp hs g hg => by obtain ⟨g', h1, h2, h3⟩ := h.ex.nblk p hp hs; rw [hg] at h1; cases h1; exact ⟨h2, h3⟩⟩
theorem OwnC.chgO {base E sz l hi : Nat} {v : Value} {L : List (List Value)} (h : OwnC w base E sz v L) (k : Chg l hi w w') (hb : ∀ g, v.ownBlock = some g → g < l ∨ hi ≤ g) : OwnC w' base E sz v L := by
  refine ⟨⟨h.1.1, ?_⟩, h.2⟩
  rcases h.1.2 with h2 | ⟨g, cap, cur, hv, hg, hh, r⟩
  · exact .inl h2
  · exact .inr ⟨g, cap, cur, hv, hg, (k.block g (Array.getElem?_eq_some_iff.1 hh).1 (hb g (by rw [hv]; rfl))).trans hh, r⟩
theorem BufR.chgO {l hi : Nat} {P : Nat → Prop} (h : BufR w lo cv ev cells es R) (q : BufAt P cv ev cells es R) (k : Chg l hi w w') (hP : ∀ g, P g → g < l ∨ hi ≤ g) : BufR w' lo cv ev cells es R :=
  ⟨h.cel.chgI k (fun hn g hg => hP g (q.c hn g hg)), ⟨h.ex.row.chgO k (fun g hg => hP g (q.e g hg)), fun p hp => (h.ex.nest p hp).chgI k (fun hn g hg => hP g (q.r p hp hn g hg)), h.ex.lens, h.ex.apart, h.ex.off⟩, h.cl, h.el, h.offc, h.offr⟩
theorem BufS.chg {l hi : Nat} (h : BufS w lo2 m lo m2 lo3 cv ev cells es R) (k : Chg l hi w w') (hb : m ≤ l ∧ (hi ≤ lo ∨ m2 ≤ l) ∧ hi ≤ lo3) : BufS w' lo2 m lo m2 lo3 cv ev cells es R :=
  ⟨h.buf.chgO h.loc k (fun g hg => by rcases hg with hg | hg | hg <;> omega), h.loc⟩
theorem BufS.ext (h : BufS w lo2 m lo m2 lo3 cv ev cells es R) (hx : Ext w w') : BufS w' lo2 m lo m2 lo3 cv ev cells es R := ⟨h.buf.ext hx, h.loc⟩
theorem BufS.ints (h : BufS w lo2 m lo m2 lo3 cv ev cells es R) : Ints w lo2 cv cells := h.buf.ints
theorem BufS.exps (h : BufS w lo2 m lo m2 lo3 cv ev cells es R) : Exps w lo2 ev es := h.buf.exps
theorem BufS.mk' (hS : BufR w' lo2 cv v' cells (es ++ [e]) (extR R es.length u1 u2)) (q : BufAt (fun g => lo ≤ g ∧ g < m2) cv ev cells es R) (c1 : e.s ≠ [] → ∀ g, u1.ownBlock = some g → g < m ∨ lo3 ≤ g) (c2 : e.t ≠ [] → ∀ g, u2.ownBlock = some g → g < m ∨ lo3 ≤ g)
    (hv : v'.ownBlock = ev.ownBlock ∨ v'.ownBlock = some W.heap.size) (hw : lo3 ≤ W.heap.size) : BufS w' lo2 m lo m2 lo3 cv v' cells (es ++ [e]) (extR R es.length u1 u2) := by
  refine ⟨hS, fun hc g hg => .inr (.inl (q.c hc g hg)), fun g hg => ?_, fun p hp hs g hg => ?_⟩
  · rcases hv with hv | hv
    · rw [hv] at hg; exact .inr (.inl (q.e g hg))
    · rw [hv] at hg; cases hg; exact .inr (.inr hw)
  · have hpl : p < 2 * es.length ∨ p = 2 * es.length ∨ p = 2 * es.length + 1 := by
      rw [List.length_append, List.length_singleton] at hp; omega
    rcases hpl with hp | rfl | rfl
    · rw [extR_old hp] at hg; rw [rowAt_app hp] at hs; exact .inr (.inl (q.r p hp hs g hg))
    · rw [extR_a] at hg; rw [rowAt_even, expAt_app2] at hs; rcases c1 hs g hg with h | h; exact .inl h; exact .inr (.inr h)
    · rw [extR_b] at hg; rw [rowAt_odd, expAt_app2] at hs; rcases c2 hs g hg with h | h; exact .inl h; exact .inr (.inr h)
end
/-- a buffer in rows from lo up to m2 -/
structure BufT (w : World) (lo m2 : Nat) (cv ev : Value) (cells : List Int) (es : List Exp) (R : Nat → Value) : Prop where
  buf : BufR w lo cv ev cells es R
  loc : BufAt (fun g => lo ≤ g ∧ g < m2) cv ev cells es R
section
variable {w w' : World} {lo m2 : Nat} {cv ev : Value} {cells : List Int} {es : List Exp} {R : Nat → Value}
theorem BufT.of (h : BufR w lo cv ev cells es R) (q : BufAt (fun g => lo ≤ g ∧ g < m2) cv ev cells es R) : BufT w lo m2 cv ev cells es R := ⟨h, q⟩
theorem BufT.ext (h : BufT w lo m2 cv ev cells es R) (hx : Ext w w') : BufT w' lo m2 cv ev cells es R := ⟨h.buf.ext hx, h.loc⟩
theorem BufT.chg {l hi : Nat} (h : BufT w lo m2 cv ev cells es R) (k : Chg l hi w w') (hb : hi ≤ lo ∨ m2 ≤ l) : BufT w' lo m2 cv ev cells es R := ⟨h.buf.chgO h.loc k (fun g hg => by omega), h.loc⟩
theorem BufT.ints (h : BufT w lo m2 cv ev cells es R) : Ints w lo cv cells := h.buf.ints
theorem BufT.exps (h : BufT w lo m2 cv ev cells es R) : Exps w lo ev es := h.buf.exps
end
/-- a call hands back a new buffer in blocks from lo on, and whether there is one -/
def PBufL (lo : Nat) (w : World) (cells : List Int) (es : List Exp) (e : Ending) (w' : World) : Prop := ∃ cv ev R, e = .returned (.tuple #[.agg #[cv, ev], .bool true]) ∧ BufR w' lo cv ev cells es R ∧ Ext w w'
end Go.Proofs.Ytfbbnbpobojboaa

/- Walks: buffers with one export more. -/
namespace Go.Proofs.Ytfbbnbpobojboaa
open Go.RowKit
set_option linter.unusedVariables false
set_option maxRecDepth 100000

set_option maxHeartbeats 3200000 in
theorem withExport_0 (cells : List Int) (es : List Exp) (cv ev : Value) (pr b : Int) (u v : Value) (s t : List Int) (o : Bool) (lo : Nat) (w : World) (l1 l2 : Nat) (h1 : Ints w l1 cv cells) (h2 : Exps w l2 ev es) (hlo : lo ≤ w.heap.size) (o1 : OwnZ w lo u s) (o2 : OwnZ w lo v t) (hd : s ≠ [] → t ≠ [] → u.ownBlock ≠ v.ownBlock) (m1 : s.length ≤ 4194304) (m2 : t.length ≤ 4194304) (h8 : 8 ≤ es.length) :
    Calls Try.prog 69 #[.agg #[cv, ev], .agg #[.int .i64 pr, .int .i64 b, u, v, .bool o]] w (fun e w' => e = .returned (.tuple #[.agg #[.slice none 0 0, .slice none 0 0], .bool false]) ∧ Ext w w') := by
  obtain ⟨p0, c0, rfl⟩ := h1.form
  obtain ⟨p1, c1, rfl⟩ := h2.form
  have he1 := h2.len
  have hc1 := h1.len
  obtain ⟨pu, cu, rfl⟩ := (o1.ints m1).form
  obtain ⟨pv, cv2, rfl⟩ := (o2.ints m2).form
  have g1 := Lib.hid o1
  have g2 := Lib.hid o2
  replace hd := Lib.hid hd
  have h8I : (8 : Int) ≤ es.length := by omega
  go_enter Try.func69, Try.ntmps69
  go_wp2_with fail
  refine bodyPost_ret (v := .tuple #[.agg #[.slice none 0 0, .slice none 0 0], .bool false]) (by simp only [results, Try.results69]; go_simp) rfl ?_
  exact ⟨rfl, qXt⟩

set_option maxHeartbeats 3200000 in
theorem withExport_1 (cells : List Int) (es : List Exp) (cv ev : Value) (pr b : Int) (u v : Value) (s t : List Int) (o : Bool) (lo : Nat) (w : World) (l1 l2 : Nat) (h1 : Ints w l1 cv cells) (h2 : Exps w l2 ev es) (hlo : lo ≤ w.heap.size) (o1 : OwnZ w lo u s) (o2 : OwnZ w lo v t) (hd : s ≠ [] → t ≠ [] → u.ownBlock ≠ v.ownBlock) (m1 : s.length ≤ 4194304) (m2 : t.length ≤ 4194304) (h8 : es.length < 8) :
    Calls Try.prog 69 #[.agg #[cv, ev], .agg #[.int .i64 pr, .int .i64 b, u, v, .bool o]] w (PBufL lo w cells (es ++ [⟨pr, b, s, t, o⟩])) := by
  obtain ⟨p0, c0, rfl⟩ := h1.form
  obtain ⟨p1, c1, rfl⟩ := h2.form
  have he1 := h2.len
  have hc1 := h1.len
  obtain ⟨pu, cu, rfl⟩ := (o1.ints m1).form
  obtain ⟨pv, cv2, rfl⟩ := (o2.ints m2).form
  have g1 := Lib.hid o1
  have g2 := Lib.hid o2
  replace hd := Lib.hid hd
  have h8I : ¬ (8 : Int) ≤ es.length := by omega
  go_enter Try.func69, Try.ntmps69
  go_wp2_with fail
  refine (implCopyBuffer_c cells es (.slice p0 cells.length c0) (.slice p1 es.length c1) _ _ _ (h1.ext qXt) (h2.ext qXt)).mono ?_
  rintro e w1 ⟨cvfb5, evfb5, R6, rfl, bf4, xw1⟩
  have Lw1 : Ext w w1 := Ext.trans qXt xw1
  have Xw1 : Ext w w1 := Lw1
  have b10 : w1.cell? ⟨w.heap.size, 0, none⟩ = some (.slice p0 cells.length c0) := xw1.cell qCl
  have b11 : w1.cell? ⟨w.heap.size, 1, none⟩ = some (.slice p1 es.length c1) := xw1.cell qCl
  have b20 : w1.cell? ⟨w.heap.size + 1, 0, none⟩ = some (.int .i64 pr) := xw1.cell qCl
  have b21 : w1.cell? ⟨w.heap.size + 1, 1, none⟩ = some (.int .i64 b) := xw1.cell qCl
  have b22 : w1.cell? ⟨w.heap.size + 1, 2, none⟩ = some (.slice pu s.length cu) := xw1.cell qCl
  have b23 : w1.cell? ⟨w.heap.size + 1, 3, none⟩ = some (.slice pv t.length cv2) := xw1.cell qCl
  have b24 : w1.cell? ⟨w.heap.size + 1, 4, none⟩ = some (.bool o) := xw1.cell qCl
  have b30 : w1.cell? ⟨w.heap.size + 1 + 1, 0, none⟩ = some (.slice none 0 0) := xw1.cell qCl
  have b31 : w1.cell? ⟨w.heap.size + 1 + 1, 1, none⟩ = some (.slice none 0 0) := xw1.cell qCl
  have f_b30 : w1.frozen? ⟨w.heap.size + 1 + 1, 0, none⟩ = false := xw1.frz (by simp <;> omega) qFz
  have f_b31 : w1.frozen? ⟨w.heap.size + 1 + 1, 1, none⟩ = false := xw1.frz (by simp <;> omega) qFz
  have z_b1 : w.heap.size < w1.heap.size := qB b10
  have z_b2 : w.heap.size + 1 < w1.heap.size := qB b20
  have z_b3 : w.heap.size + 1 + 1 < w1.heap.size := qB b30
  replace o1 := o1.ext Lw1
  replace o2 := o2.ext Lw1
  have s_w1 : w.heap.size ≤ w1.heap.size := Xw1.size
  clear xw1
  replace bf4 := bf4.lower (lo' := w.heap.size + 1 + 1 + 1) qSo
  obtain ⟨afb5, cfb5, rfl⟩ := bf4.ints.form
  obtain ⟨efb5, dfb5, rfl⟩ := bf4.exps.form
  have q_bf4 := Lib.hid bf4.at
  have Q7_b10 := Lib.hid b10
  have Q7_b11 := Lib.hid b11
  have Q7_zb1 := z_b1
  have Q7_b20 := Lib.hid b20
  have Q7_b21 := Lib.hid b21
  have Q7_b22 := Lib.hid b22
  have Q7_b23 := Lib.hid b23
  have Q7_b24 := Lib.hid b24
  have Q7_zb2 := z_b2
  have Q7_b30 := Lib.hid b30
  have Q7_f_b30 := Lib.hid f_b30
  have Q7_b31 := Lib.hid b31
  have Q7_f_b31 := Lib.hid f_b31
  have Q7_zb3 := z_b3
  have Q7_o1 := Lib.hid o1
  have Q7_o2 := Lib.hid o2
  have Q7_bf4 := Lib.hid bf4
  have BL8 : Ext w1 w1 := Ext.refl _
  go_upto_region 4 with fail
  generalize hW1 : w1.alloc (.cells #[.slice afb5 cells.length cfb5, .slice efb5 es.length dfb5] 32) = w2 at *
  have Lw2 : Ext w1 w2 := by subst hW1; exact qXt
  have Xw2 : Ext w w2 := Xw1.trans Lw2
  replace b10 := Lw2.cell b10
  replace b11 := Lw2.cell b11
  replace b20 := Lw2.cell b20
  replace b21 := Lw2.cell b21
  replace b22 := Lw2.cell b22
  replace b23 := Lw2.cell b23
  replace b24 := Lw2.cell b24
  replace b30 := Lw2.cell b30
  replace b31 := Lw2.cell b31
  replace f_b30 := Lw2.frz z_b3 f_b30
  replace f_b31 := Lw2.frz z_b3 f_b31
  have b90 : w2.cell? ⟨w1.heap.size, 0, none⟩ = some (.slice afb5 cells.length cfb5) := by subst hW1; exact qCl
  have b91 : w2.cell? ⟨w1.heap.size, 1, none⟩ = some (.slice efb5 es.length dfb5) := by subst hW1; exact qCl
  have f_b90 : w2.frozen? ⟨w1.heap.size, 0, none⟩ = false := by subst hW1; exact qFz
  have f_b91 : w2.frozen? ⟨w1.heap.size, 1, none⟩ = false := by subst hW1; exact qFz
  have z_b1 : w.heap.size < w2.heap.size := qB b10
  have z_b2 : w.heap.size + 1 < w2.heap.size := qB b20
  have z_b3 : w.heap.size + 1 + 1 < w2.heap.size := qB b30
  have z_b9 : w1.heap.size < w2.heap.size := qB b90
  replace o1 := o1.ext Lw2
  replace o2 := o2.ext Lw2
  replace bf4 := bf4.ext Lw2
  have s_w2 : w.heap.size ≤ w2.heap.size := Xw2.size
  have BL8_w2 : Ext w1 w2 := BL8.trans Lw2
  clear hW1
  have EE : Ext w2 ((w2).alloc (.cells #[.int .i64 pr, .int .i64 b, .slice pu s.length cu, .slice pv t.length cv2, .bool o] TEXPORT)) := qXt
  have SS : SrcR ((w2).alloc (.cells #[.int .i64 pr, .int .i64 b, .slice pu s.length cu, .slice pv t.length cv2, .bool o] TEXPORT)) 5 (.slice (some ⟨w2.heap.size, 0, none⟩) 1 1) 1 [.int .i64 pr, .int .i64 b, .slice pu s.length cu, .slice pv t.length cv2, .bool o] := src_one (w2) _ rfl (by intro u hu; simp only [List.mem_cons, List.not_mem_nil, or_false] at hu; rcases hu with rfl | rfl | rfl | rfl | rfl <;> rfl)
  go_wp2_with (
    at_builtin
    refine wpList_appC Try.underlying30 infoExp rfl (by decide) rfl (.tmp 15) (.tmp 17) rfl rfl rfl (bf4.ex.row.ext EE) SS (by rw [cellsE_len]; omega) (by rw [cellsE_len]; omega) (by simp <;> omega) ?_
    intro vw3 w3 ho hgr hbl hv
    have hS : BufR w3 (lo) (.slice afb5 cells.length cfb5) vw3 cells (es ++ [⟨pr, b, s, t, o⟩]) (extR R6 es.length (.slice pu s.length cu) (.slice pv t.length cv2)) := BufR.app (bf4.ext EE) (by omega) (o1.ext EE) (o2.ext EE) m1 m2 hd.out (fun hs g hg => by obtain ⟨g7, h7, h8, h9⟩ := g1.out.lt hs; rw [hg] at h7; cases h7; omega) (fun hs g hg => by obtain ⟨g7, h7, h8, h9⟩ := g2.out.lt hs; rw [hg] at h7; cases h7; omega) (by omega) ho hgr hv
    replace hS : BufS w3 (lo) (w.heap.size) (w.heap.size + 1 + 1 + 1) (w1.heap.size) (w2.heap.size) (.slice afb5 cells.length cfb5) vw3 cells (es ++ [⟨pr, b, s, t, o⟩]) (extR R6 es.length (.slice pu s.length cu) (.slice pv t.length cv2)) := BufS.mk' (W := (w2).alloc (.cells #[.int .i64 pr, .int .i64 b, .slice pu s.length cu, .slice pv t.length cv2, .bool o] TEXPORT)) hS q_bf4.out ((fun hs g hg => .inl (by obtain ⟨g7, h7, h8, h9⟩ := g1.out.lt hs; rw [hg] at h7; cases h7; exact h9))) ((fun hs g hg => .inl (by obtain ⟨g7, h7, h8, h9⟩ := g2.out.lt hs; rw [hg] at h7; cases h7; exact h9))) (by rcases hv with h7 | h7; exact .inl h7; exact .inr h7) (by simp)
    obtain ⟨pa10, pc11, hpv⟩ := hS.buf.ex.len
    rw [List.length_append, List.length_singleton] at hpv
    subst hpv
    have Kw3 : Chg (w.heap.size + 1 + 1 + 1) (w1.heap.size) w2 w3 := chg_row hgr (fun g hg => by have h7 := q_bf4.out.e g hg; omega)
    have zc_w3 := Kw3.size
    clear ho hgr hbl hv EE SS
    have Xw3 : Ext w w3 := Ext.chg Xw2 Kw3 (by omega)
    replace b10 := Kw3.cell (by omega) b10
    replace b11 := Kw3.cell (by omega) b11
    replace b20 := Kw3.cell (by omega) b20
    replace b21 := Kw3.cell (by omega) b21
    replace b22 := Kw3.cell (by omega) b22
    replace b23 := Kw3.cell (by omega) b23
    replace b24 := Kw3.cell (by omega) b24
    replace b30 := Kw3.cell (by omega) b30
    replace f_b30 := Kw3.frzO (by omega) z_b3 f_b30
    replace b31 := Kw3.cell (by omega) b31
    replace f_b31 := Kw3.frzO (by omega) z_b3 f_b31
    replace b90 := Kw3.cell (by omega) b90
    replace f_b90 := Kw3.frzO (by omega) z_b9 f_b90
    replace b91 := Kw3.cell (by omega) b91
    replace f_b91 := Kw3.frzO (by omega) z_b9 f_b91
    have z_b1 : w.heap.size < w3.heap.size := qB b10
    have z_b2 : w.heap.size + 1 < w3.heap.size := qB b20
    have z_b3 : w.heap.size + 1 + 1 < w3.heap.size := qB b30
    have z_b9 : w1.heap.size < w3.heap.size := qB b90
    clear o1
    clear o2
    clear bf4 q_bf4
    have bf4 := hS
    clear hS Kw3
    have s_w3 : w.heap.size ≤ w3.heap.size := Xw3.size)
  go_wp2_with fail
  generalize hW2 : (w3.setCell ⟨w1.heap.size, 1, none⟩ (.slice pa10 (es.length + 1) pc11)) = w4 at *
  have Kw4 : Chg (w1.heap.size) (w1.heap.size + 1) w3 w4 := by subst hW2; exact qCh
  have Xw4 : Ext w w4 := by subst hW2; exact qXt
  replace b10 := Kw4.cell (by omega) b10
  replace b11 := Kw4.cell (by omega) b11
  replace b20 := Kw4.cell (by omega) b20
  replace b21 := Kw4.cell (by omega) b21
  replace b22 := Kw4.cell (by omega) b22
  replace b23 := Kw4.cell (by omega) b23
  replace b24 := Kw4.cell (by omega) b24
  replace b30 := Kw4.cell (by omega) b30
  replace f_b30 := Kw4.frzO (by omega) z_b3 f_b30
  replace b31 := Kw4.cell (by omega) b31
  replace f_b31 := Kw4.frzO (by omega) z_b3 f_b31
  replace b90 : w4.cell? ⟨w1.heap.size, 0, none⟩ = some (.slice afb5 cells.length cfb5) := by subst hW2; go_simp
  replace f_b90 : w4.frozen? ⟨w1.heap.size, 0, none⟩ = false := by subst hW2; first | (simp only [World.frozen?_setCell]; with_reducible assumption) | go_simp
  replace b91 : w4.cell? ⟨w1.heap.size, 1, none⟩ = some (.slice pa10 (es.length + 1) pc11) := by subst hW2; go_simp
  replace f_b91 : w4.frozen? ⟨w1.heap.size, 1, none⟩ = false := by subst hW2; first | (simp only [World.frozen?_setCell]; with_reducible assumption) | go_simp
  replace bf4 := bf4.chg Kw4 (by omega)
  clear Kw4
  have z_b1 : w.heap.size < w4.heap.size := qB b10
  have z_b2 : w.heap.size + 1 < w4.heap.size := qB b20
  have z_b3 : w.heap.size + 1 + 1 < w4.heap.size := qB b30
  have z_b9 : w1.heap.size < w4.heap.size := qB b90
  have s_w4 : w.heap.size ≤ w4.heap.size := Xw4.size
  clear hW2
  generalize hW3 : ((w4.setCell ⟨w.heap.size + 1 + 1, 0, none⟩ (.slice afb5 cells.length cfb5)).setCell ⟨w.heap.size + 1 + 1, 1, none⟩ (.slice pa10 (es.length + 1) pc11)) = w5 at *
  have Kw5 : Chg (w.heap.size + 1 + 1) (w.heap.size + 1 + 1 + 1) w4 w5 := by subst hW3; exact qCh
  have Xw5 : Ext w w5 := by subst hW3; exact qXt
  replace b10 := Kw5.cell (by omega) b10
  replace b11 := Kw5.cell (by omega) b11
  replace b20 := Kw5.cell (by omega) b20
  replace b21 := Kw5.cell (by omega) b21
  replace b22 := Kw5.cell (by omega) b22
  replace b23 := Kw5.cell (by omega) b23
  replace b24 := Kw5.cell (by omega) b24
  replace b30 : w5.cell? ⟨w.heap.size + 1 + 1, 0, none⟩ = some (.slice afb5 cells.length cfb5) := by subst hW3; go_simp
  replace f_b30 : w5.frozen? ⟨w.heap.size + 1 + 1, 0, none⟩ = false := by subst hW3; first | (simp only [World.frozen?_setCell]; with_reducible assumption) | go_simp
  replace b31 : w5.cell? ⟨w.heap.size + 1 + 1, 1, none⟩ = some (.slice pa10 (es.length + 1) pc11) := by subst hW3; go_simp
  replace f_b31 : w5.frozen? ⟨w.heap.size + 1 + 1, 1, none⟩ = false := by subst hW3; first | (simp only [World.frozen?_setCell]; with_reducible assumption) | go_simp
  replace b90 := Kw5.cell (by omega) b90
  replace f_b90 := Kw5.frzO (by omega) z_b9 f_b90
  replace b91 := Kw5.cell (by omega) b91
  replace f_b91 := Kw5.frzO (by omega) z_b9 f_b91
  replace bf4 := bf4.chg Kw5 (by omega)
  clear Kw5
  have z_b1 : w.heap.size < w5.heap.size := qB b10
  have z_b2 : w.heap.size + 1 < w5.heap.size := qB b20
  have z_b3 : w.heap.size + 1 + 1 < w5.heap.size := qB b30
  have z_b9 : w1.heap.size < w5.heap.size := qB b90
  have s_w5 : w.heap.size ≤ w5.heap.size := Xw5.size
  clear hW3
  refine bodyPost_ret (v := .tuple #[.agg #[.slice afb5 cells.length cfb5, .slice pa10 (es.length + 1) pc11], .bool true]) (by simp only [results, Try.results69]; go_simp) rfl ?_
  exact ⟨_, _, _, rfl, (bf4.buf.ext qXt), (Xw5.trans qXt)⟩


end Go.Proofs.Ytfbbnbpobojboaa

/- Walks: rows, sums. -/
namespace Go.Proofs.Ytfbbnbpobojboaa
open Go.RowKit
set_option linter.unusedVariables false
set_option maxRecDepth 100000

end Go.Proofs.Ytfbbnbpobojboaa

/- Walks: bounds of the reference. -/
namespace Go.Proofs.Ytfbbnbpobojboaa
open Go.RowKit
set_option linter.unusedVariables false
set_option maxRecDepth 100000


end Go.Proofs.Ytfbbnbpobojboaa

/- Walks: values that are stored, of the program and of the reference. -/
namespace Go.Proofs.Ytfbbnbpobojboaa
open Go.RowKit
set_option linter.unusedVariables false
set_option maxRecDepth 100000


theorem PIntsB.nil {w w' : World} (h : Ext w w') : PIntsB w [] false (.returned (.tuple #[.slice none 0 0, .bool false])) w' :=
  ⟨_, rfl, Ints.nil _ _ _ _ (by simp) (fun _ => rfl), .inl ⟨rfl, none, 0, rfl, by simp, fun _ => rfl⟩, h⟩
end Go.Proofs.Ytfbbnbpobojboaa

/- Walks: views that are filled and copied, of both. -/
namespace Go.Proofs.Ytfbbnbpobojboaa
open Go.RowKit
set_option linter.unusedVariables false
set_option maxRecDepth 100000


end Go.Proofs.Ytfbbnbpobojboaa

/- Answers that are buffers: fill, copy, part; plain words and laws. No condition. -/
namespace Go.Proofs.Ytfbbnbpobojboaa
open Go.RowKit
set_option linter.unusedVariables false
set_option maxRecDepth 100000

/-- ExportPart -/
def parA (cells : List Int) (es : List Exp) (i d F T B : Int) (hf ht : Bool) : BBool :=
  if ((bufB cells es && opB es i) && decide (es.length < 8)) && (sliceV (expAt es i.toNat).b (expAt es i.toNat).s (expAt es i.toNat).t d F T B hf ht).2.2.2 then
    (cells, es ++ [⟨i, (sliceV (expAt es i.toNat).b (expAt es i.toNat).s (expAt es i.toNat).t d F T B hf ht).1, (sliceV (expAt es i.toNat).b (expAt es i.toNat).s (expAt es i.toNat).t d F T B hf ht).2.1, (sliceV (expAt es i.toNat).b (expAt es i.toNat).s (expAt es i.toNat).t d F T B hf ht).2.2.1, true⟩], true) else noBuf
theorem parA_small (cells : List Int) (es : List Exp) (i d F T B : Int) (hf ht : Bool) : SmallB (parA cells es i d F T B hf ht) := by
  unfold parA
  split
  · rename_i h
    simp only [Bool.and_eq_true] at h
    have hft := sliceV_fit (expAt es i.toNat).b (expAt es i.toNat).s (expAt es i.toNat).t d F T B hf ht
    exact smallB_app h.1.1.1 _ hft.2 (by show (sliceV (expAt es i.toNat).b (expAt es i.toNat).s (expAt es i.toNat).t d F T B hf ht).2.2.1.length ≤ 4; rw [hft.1]; exact hft.2)
  · exact SmallB.no rfl
end Go.Proofs.Ytfbbnbpobojboaa

/- Walks: ExportView of both. -/
namespace Go.Proofs.Ytfbbnbpobojboaa
open Go.RowKit
set_option linter.unusedVariables false
set_option maxRecDepth 100000

set_option maxHeartbeats 3200000 in
theorem added_c (cells : List Int) (es : List Exp) (cv ev : Value) (pr : Int) (b1 : Int) (u1 v1 : Value) (s1 t1 : List Int) (w : World) (l1 l2 : Nat) (h1 : Ints w l1 cv cells) (h2 : Exps w l2 ev es) (l3 l4 : Nat) (k1 : Ints w l3 u1 s1) (k2 : Ints w l4 v1 t1) (h8 : es.length < 8) :
  Calls Try.prog 64 #[.agg #[cv, ev], .int .i64 pr, .agg #[.int .i64 b1, u1, v1]] w (PBuf w cells (es ++ [⟨pr, b1, s1, t1, true⟩])) := by
 obtain ⟨p0, c0, rfl⟩ := h1.form
 obtain ⟨p1, c1, rfl⟩ := h2.form
 have he1 := h2.len
 have hc1 := h1.len
 obtain ⟨p2, c2, rfl⟩ := k1.form
 obtain ⟨p3, c3, rfl⟩ := k2.form
 have hk1 := k1.len
 have hk2 := k2.len
 go_enter Try.func64, Try.ntmps64
 go_wp2_with fail
 refine (specCopyBuffer_c cells es (.slice p0 cells.length c0) (.slice p1 es.length c1) _ _ _ (h1.ext qXt) (h2.ext qXt)).mono ?_
 rintro e w1 ⟨cvfb5, evfb5, R6, rfl, bf4, xw1⟩
 have Lw1 : Ext w w1 := Ext.trans qXt xw1
 have Xw1 : Ext w w1 := Lw1
 have b10 : w1.cell? ⟨w.heap.size, 0, none⟩ = some (.slice p0 cells.length c0) := xw1.cell qCl
 have b11 : w1.cell? ⟨w.heap.size, 1, none⟩ = some (.slice p1 es.length c1) := xw1.cell qCl
 have b20 : w1.cell? ⟨w.heap.size + 1, 0, none⟩ = some (.int .i64 b1) := xw1.cell qCl
 have b21 : w1.cell? ⟨w.heap.size + 1, 1, none⟩ = some (.slice p2 s1.length c2) := xw1.cell qCl
 have b22 : w1.cell? ⟨w.heap.size + 1, 2, none⟩ = some (.slice p3 t1.length c3) := xw1.cell qCl
 have b30 : w1.cell? ⟨w.heap.size + 1 + 1, 0, none⟩ = some (.slice none 0 0) := xw1.cell qCl
 have b31 : w1.cell? ⟨w.heap.size + 1 + 1, 1, none⟩ = some (.slice none 0 0) := xw1.cell qCl
 have f_b30 : w1.frozen? ⟨w.heap.size + 1 + 1, 0, none⟩ = false := xw1.frz (by simp <;> omega) qFz
 have f_b31 : w1.frozen? ⟨w.heap.size + 1 + 1, 1, none⟩ = false := xw1.frz (by simp <;> omega) qFz
 have z_b1 : w.heap.size < w1.heap.size := qB b10
 have z_b2 : w.heap.size + 1 < w1.heap.size := qB b20
 have z_b3 : w.heap.size + 1 + 1 < w1.heap.size := qB b30
 have s_w1 : w.heap.size ≤ w1.heap.size := Xw1.size
 clear xw1
 replace bf4 := bf4.lower (lo' := w.heap.size + 1 + 1 + 1) qSo
 obtain ⟨afb5, cfb5, rfl⟩ := bf4.ints.form
 obtain ⟨efb5, dfb5, rfl⟩ := bf4.exps.form
 have q_bf4 := Lib.hid bf4.at
 have Q7_b10 := Lib.hid b10
 have Q7_b11 := Lib.hid b11
 have Q7_zb1 := z_b1
 have Q7_b20 := Lib.hid b20
 have Q7_b21 := Lib.hid b21
 have Q7_b22 := Lib.hid b22
 have Q7_zb2 := z_b2
 have Q7_b30 := Lib.hid b30
 have Q7_f_b30 := Lib.hid f_b30
 have Q7_b31 := Lib.hid b31
 have Q7_f_b31 := Lib.hid f_b31
 have Q7_zb3 := z_b3
 have Q7_bf4 := Lib.hid bf4
 have BL8 : Ext w1 w1 := Ext.refl _
 go_wp2_with fail
 generalize hW9 : w1.alloc (.cells #[.slice afb5 cells.length cfb5, .slice efb5 es.length dfb5] 32) = w2 at *
 have Lw2 : Ext w1 w2 := by subst hW9; exact qXt
 have Xw2 : Ext w w2 := Xw1.trans Lw2
 replace b10 := Lw2.cell b10
 replace b11 := Lw2.cell b11
 replace b20 := Lw2.cell b20
 replace b21 := Lw2.cell b21
 replace b22 := Lw2.cell b22
 replace b30 := Lw2.cell b30
 replace b31 := Lw2.cell b31
 replace f_b30 := Lw2.frz z_b3 f_b30
 replace f_b31 := Lw2.frz z_b3 f_b31
 have b90 : w2.cell? ⟨w1.heap.size, 0, none⟩ = some (.slice afb5 cells.length cfb5) := by subst hW9; exact qCl
 have b91 : w2.cell? ⟨w1.heap.size, 1, none⟩ = some (.slice efb5 es.length dfb5) := by subst hW9; exact qCl
 have f_b90 : w2.frozen? ⟨w1.heap.size, 0, none⟩ = false := by subst hW9; exact qFz
 have f_b91 : w2.frozen? ⟨w1.heap.size, 1, none⟩ = false := by subst hW9; exact qFz
 have z_b1 : w.heap.size < w2.heap.size := qB b10
 have z_b2 : w.heap.size + 1 < w2.heap.size := qB b20
 have z_b3 : w.heap.size + 1 + 1 < w2.heap.size := qB b30
 have z_b9 : w1.heap.size < w2.heap.size := qB b90
 replace bf4 := bf4.ext Lw2
 have s_w2 : w.heap.size ≤ w2.heap.size := Xw2.size
 have BL8_w2 : Ext w1 w2 := BL8.trans Lw2
 clear hW9
 have Q10_b10 := Lib.hid b10
 have Q10_b11 := Lib.hid b11
 have Q10_zb1 := z_b1
 have Q10_b20 := Lib.hid b20
 have Q10_b21 := Lib.hid b21
 have Q10_b22 := Lib.hid b22
 have Q10_zb2 := z_b2
 have Q10_b30 := Lib.hid b30
 have Q10_f_b30 := Lib.hid f_b30
 have Q10_b31 := Lib.hid b31
 have Q10_f_b31 := Lib.hid f_b31
 have Q10_zb3 := z_b3
 have Q10_b90 := Lib.hid b90
 have Q10_f_b90 := Lib.hid f_b90
 have Q10_b91 := Lib.hid b91
 have Q10_f_b91 := Lib.hid f_b91
 have Q10_zb9 := z_b9
 have Q10_bf4 := Lib.hid bf4
 have BL11 : Ext w2 w2 := Ext.refl _
 refine wp_region_tail (S := fun w' => w'.cell? ⟨w.heap.size + 1, 0, none⟩ = some (.int .i64 b1) ∧ w'.cell? ⟨w.heap.size + 1, 1, none⟩ = some (.slice p2 s1.length c2) ∧ w'.cell? ⟨w.heap.size + 1, 2, none⟩ = some (.slice p3 t1.length c3) ∧ w'.cell? ⟨w1.heap.size, 1, none⟩ = some (.slice efb5 es.length dfb5)) (fun i => decide (9 ≤ i)) qKr ⟨b20, b21, b22, b91⟩ (fun hHeld => ?_)
 refine qTk (v := ?_) 0 rfl (.inl ⟨by rfl, ?_⟩) ?_
 rotate_left
 ·
  (intro w hSw; (try dsimp only at hSw); go_simp; try with_reducible rfl)
 try simp only [Act.put, qa, qb, qc, qD, qE, qF]
 refine qTk (v := ?_) 1 rfl (.inl ⟨by rfl, ?_⟩) ?_
 rotate_left
 ·
  (intro w hSw; (try dsimp only at hSw); go_simp; try with_reducible rfl)
 try simp only [Act.put, qa, qb, qc, qD, qE, qF]
 refine qTk (v := ?_) 2 rfl (.inl ⟨by rfl, ?_⟩) ?_
 rotate_left
 ·
  (intro w hSw; (try dsimp only at hSw); go_simp; try with_reducible rfl)
 try simp only [Act.put, qa, qb, qc, qD, qE, qF]
 refine qTk (v := ?_) 3 rfl (.inl ⟨by rfl, ?_⟩) ?_
 rotate_left
 ·
  (intro w hSw; (try dsimp only at hSw); go_simp; try with_reducible rfl)
 try simp only [Act.put, qa, qb, qc, qD, qE, qF]
 refine wpTail_one (i := 4) qKr rfl rfl (fun K hK => ?_)
 try simp only [Act.put, qa, qb, qc, qD, qE, qF]
 go_simp
 refine (scopyView_c b1 (.slice p2 s1.length c2) (.slice p3 t1.length c3) s1 t1 _ _ _ (k1.ext (Xw2.trans qXt)) (k2.ext (Xw2.trans qXt))).mono ?_
 rintro e w3 ⟨fv12u, fv12v, rfl, i13u, i13v, i13uz, i13vz, i13s, xw3⟩
 have Lw3 : Ext w2 w3 := Ext.trans qXt xw3
 have Xw3 : Ext w w3 := Xw2.trans Lw3
 replace b10 := Lw3.cell b10
 replace b11 := Lw3.cell b11
 replace b20 := Lw3.cell b20
 replace b21 := Lw3.cell b21
 replace b22 := Lw3.cell b22
 replace b30 := Lw3.cell b30
 replace b31 := Lw3.cell b31
 replace f_b30 := Lw3.frz z_b3 f_b30
 replace f_b31 := Lw3.frz z_b3 f_b31
 replace b90 := Lw3.cell b90
 replace b91 := Lw3.cell b91
 replace f_b90 := Lw3.frz z_b9 f_b90
 replace f_b91 := Lw3.frz z_b9 f_b91
 have z_b1 : w.heap.size < w3.heap.size := qB b10
 have z_b2 : w.heap.size + 1 < w3.heap.size := qB b20
 have z_b3 : w.heap.size + 1 + 1 < w3.heap.size := qB b30
 have z_b9 : w1.heap.size < w3.heap.size := qB b90
 replace bf4 := bf4.ext Lw3
 have s_w3 : w.heap.size ≤ w3.heap.size := Xw3.size
 have BL8_w3 : Ext w1 w3 := BL8_w2.trans Lw3
 have BL11_w3 : Ext w2 w3 := BL11.trans Lw3
 clear xw3
 try simp only [World.size_alloc, World.size_drew] at i13u
 try simp only [World.size_alloc, World.size_drew] at i13v
 try simp only [World.size_alloc, World.size_drew] at i13uz
 try simp only [World.size_alloc, World.size_drew] at i13vz
 obtain ⟨afv12u, cfv12u, rfl⟩ := i13u.form
 obtain ⟨afv12v, cfv12v, rfl⟩ := i13v.form
 replace i13s := Lib.hid i13s
 refine hK.out _ _ ⟨b20, b21, b22, b91⟩ (fun hHeld => ?_)
 clear hK K
 try simp only [Act.put, qa, qb, qc, qD, qE, qF]
 refine qTk (v := ?_) 5 rfl (.inl ⟨by rfl, ?_⟩) ?_
 rotate_left
 ·
  (intro w hSw; (try dsimp only at hSw); go_simp; try with_reducible rfl)
 try simp only [Act.put, qa, qb, qc, qD, qE, qF]
 refine wpTail_one (i := 6) qKr rfl rfl (fun K hK => ?_)
 try simp only [Act.put, qa, qb, qc, qD, qE, qF]
 go_simp
 refine hK.out _ (w3.alloc (.cells #[.int .i64 pr, .int .i64 b1, .slice afv12u s1.length cfv12u, .slice afv12v t1.length cfv12v, .bool true] TEXPORT)) ⟨(show Ext w3 (w3.alloc (.cells #[.int .i64 pr, .int .i64 b1, .slice afv12u s1.length cfv12u, .slice afv12v t1.length cfv12v, .bool true] TEXPORT)) from qXt).cell b20, (show Ext w3 (w3.alloc (.cells #[.int .i64 pr, .int .i64 b1, .slice afv12u s1.length cfv12u, .slice afv12v t1.length cfv12v, .bool true] TEXPORT)) from qXt).cell b21, (show Ext w3 (w3.alloc (.cells #[.int .i64 pr, .int .i64 b1, .slice afv12u s1.length cfv12u, .slice afv12v t1.length cfv12v, .bool true] TEXPORT)) from qXt).cell b22, (show Ext w3 (w3.alloc (.cells #[.int .i64 pr, .int .i64 b1, .slice afv12u s1.length cfv12u, .slice afv12v t1.length cfv12v, .bool true] TEXPORT)) from qXt).cell b91⟩ (fun hHeld => ?_)
 clear hK K
 try simp only [Act.put, qa, qb, qc, qD, qE, qF]
 refine wpTail_one (i := 7) qKr rfl rfl (fun K hK => ?_)
 have EE : Ext w3 ((w3).alloc (.cells #[.int .i64 pr, .int .i64 b1, .slice afv12u s1.length cfv12u, .slice afv12v t1.length cfv12v, .bool true] TEXPORT)) := qXt
 have SS : SrcR ((w3).alloc (.cells #[.int .i64 pr, .int .i64 b1, .slice afv12u s1.length cfv12u, .slice afv12v t1.length cfv12v, .bool true] TEXPORT)) 5 (.slice (some ⟨w3.heap.size, 0, none⟩) 1 1) 1 [.int .i64 pr, .int .i64 b1, .slice afv12u s1.length cfv12u, .slice afv12v t1.length cfv12v, .bool true] := src_one (w3) _ rfl (by intro u hu; simp only [List.mem_cons, List.not_mem_nil, or_false] at hu; rcases hu with rfl | rfl | rfl | rfl | rfl <;> rfl)
 refine step_appC Try.underlying30 infoExp rfl (by decide) rfl (.tmp 11) (.tmp 16) rfl rfl rfl (bf4.ex.row.ext EE) SS (by rw [cellsE_len]; omega) (by rw [cellsE_len]; omega) (by simp <;> omega) ?_
 intro vw4 w4 ho hgr hbl hv
 have hS : BufR w4 (w.heap.size + 1 + 1 + 1) (.slice afb5 cells.length cfb5) vw4 cells (es ++ [⟨pr, b1, s1, t1, true⟩]) (extR R6 es.length (.slice afv12u s1.length cfv12u) (.slice afv12v t1.length cfv12v)) := BufR.appL Q10_bf4.out (Ext.trans BL11_w3 EE) ((i13uz.ext EE).lower (by omega)) ((i13vz.ext EE).lower (by omega)) (by dsimp only; omega) (by dsimp only; omega) i13s.out (fun hs g hg => by obtain ⟨g7, h7, h8, h9⟩ := i13uz.lt hs; rw [hg] at h7; cases h7; omega) (fun hs g hg => by obtain ⟨g7, h7, h8, h9⟩ := i13vz.lt hs; rw [hg] at h7; cases h7; omega) (by omega) ho hgr hv
 replace hS : BufS w4 (w.heap.size + 1 + 1 + 1) (0) (w.heap.size + 1 + 1 + 1) (w1.heap.size) (w2.heap.size) (.slice afb5 cells.length cfb5) vw4 cells (es ++ [⟨pr, b1, s1, t1, true⟩]) (extR R6 es.length (.slice afv12u s1.length cfv12u) (.slice afv12v t1.length cfv12v)) := BufS.mk' (W := (w3).alloc (.cells #[.int .i64 pr, .int .i64 b1, .slice afv12u s1.length cfv12u, .slice afv12v t1.length cfv12v, .bool true] TEXPORT)) hS q_bf4.out ((fun hs g hg => .inr (by obtain ⟨g7, h7, h8, h9⟩ := i13uz.lt hs; rw [hg] at h7; cases h7; exact h8))) ((fun hs g hg => .inr (by obtain ⟨g7, h7, h8, h9⟩ := i13vz.lt hs; rw [hg] at h7; cases h7; exact h8))) (by rcases hv with h7 | h7; exact .inl h7; exact .inr h7) (by have h7 := (BL11_w3).size; simp; omega)
 obtain ⟨pa14, pc15, hpv⟩ := hS.buf.ex.len
 rw [List.length_append, List.length_singleton] at hpv
 subst hpv
 have Kw4 : Chg (w.heap.size + 1 + 1 + 1) (w1.heap.size) w3 w4 := chg_row hgr (fun g hg => by have h7 := q_bf4.out.e g hg; omega)
 have zc_w4 := Kw4.size
 clear ho hgr hbl hv EE SS
 have Xw4 : Ext w w4 := Ext.chg Xw3 Kw4 (by omega)
 replace b10 := Kw4.cell (by omega) b10
 replace b11 := Kw4.cell (by omega) b11
 replace b20 := Kw4.cell (by omega) b20
 replace b21 := Kw4.cell (by omega) b21
 replace b22 := Kw4.cell (by omega) b22
 replace b30 := Kw4.cell (by omega) b30
 replace f_b30 := Kw4.frzO (by omega) z_b3 f_b30
 replace b31 := Kw4.cell (by omega) b31
 replace f_b31 := Kw4.frzO (by omega) z_b3 f_b31
 replace b90 := Kw4.cell (by omega) b90
 replace f_b90 := Kw4.frzO (by omega) z_b9 f_b90
 replace b91 := Kw4.cell (by omega) b91
 replace f_b91 := Kw4.frzO (by omega) z_b9 f_b91
 have z_b1 : w.heap.size < w4.heap.size := qB b10
 have z_b2 : w.heap.size + 1 < w4.heap.size := qB b20
 have z_b3 : w.heap.size + 1 + 1 < w4.heap.size := qB b30
 have z_b9 : w1.heap.size < w4.heap.size := qB b90
 clear i13u
 clear i13v
 clear i13uz
 clear i13vz
 clear bf4 q_bf4
 have bf4 := hS
 clear hS Kw4
 have s_w4 : w.heap.size ≤ w4.heap.size := Xw4.size
 refine hK.out _ _ ⟨b20, b21, b22, b91⟩ (fun hHeld => ?_)
 clear hK K
 try simp only [Act.put, qa, qb, qc, qD, qE, qF]
 refine qTk (v := ?_) 8 rfl (.inl ⟨by rfl, ?_⟩) ?_
 rotate_left
 ·
  (intro w hSw; (try dsimp only at hSw); go_simp; try with_reducible rfl)
 try simp only [Act.put, qa, qb, qc, qD, qE, qF]
 refine wpTail_last (i := 9) qKr rfl rfl (fun K hK => ?_)
 try simp only [Act.put, qa, qb, qc, qD, qE, qF]
 go_simp
 refine hK.out _ _ ?_
 clear hK K
 try simp only [Act.put, qa, qb, qc, qD, qE, qF]
 refine wpTail_done qKr ?_ _
 clear hHeld 
 generalize hW10 : (w4.setCell ⟨w1.heap.size, 1, none⟩ (.slice pa14 (es.length + 1) pc15)) = w5 at *
 have Kw5 : Chg (w1.heap.size) (w1.heap.size + 1) w4 w5 := by subst hW10; exact qCh
 have Xw5 : Ext w w5 := by subst hW10; exact qXt
 replace b10 := Kw5.cell (by omega) b10
 replace b11 := Kw5.cell (by omega) b11
 replace b20 := Kw5.cell (by omega) b20
 replace b21 := Kw5.cell (by omega) b21
 replace b22 := Kw5.cell (by omega) b22
 replace b30 := Kw5.cell (by omega) b30
 replace f_b30 := Kw5.frzO (by omega) z_b3 f_b30
 replace b31 := Kw5.cell (by omega) b31
 replace f_b31 := Kw5.frzO (by omega) z_b3 f_b31
 replace b90 : w5.cell? ⟨w1.heap.size, 0, none⟩ = some (.slice afb5 cells.length cfb5) := by subst hW10; go_simp
 replace f_b90 : w5.frozen? ⟨w1.heap.size, 0, none⟩ = false := by subst hW10; first | (simp only [World.frozen?_setCell]; with_reducible assumption) | go_simp
 replace b91 : w5.cell? ⟨w1.heap.size, 1, none⟩ = some (.slice pa14 (es.length + 1) pc15) := by subst hW10; go_simp
 replace f_b91 : w5.frozen? ⟨w1.heap.size, 1, none⟩ = false := by subst hW10; first | (simp only [World.frozen?_setCell]; with_reducible assumption) | go_simp
 replace bf4 := bf4.chg Kw5 (by omega)
 clear Kw5
 have z_b1 : w.heap.size < w5.heap.size := qB b10
 have z_b2 : w.heap.size + 1 < w5.heap.size := qB b20
 have z_b3 : w.heap.size + 1 + 1 < w5.heap.size := qB b30
 have z_b9 : w1.heap.size < w5.heap.size := qB b90
 have s_w5 : w.heap.size ≤ w5.heap.size := Xw5.size
 clear hW10
 go_wp2_with fail
 generalize hW11 : ((w5.setCell ⟨w.heap.size + 1 + 1, 0, none⟩ (.slice afb5 cells.length cfb5)).setCell ⟨w.heap.size + 1 + 1, 1, none⟩ (.slice pa14 (es.length + 1) pc15)) = w6 at *
 have Kw6 : Chg (w.heap.size + 1 + 1) (w.heap.size + 1 + 1 + 1) w5 w6 := by subst hW11; exact qCh
 have Xw6 : Ext w w6 := by subst hW11; exact qXt
 replace b10 := Kw6.cell (by omega) b10
 replace b11 := Kw6.cell (by omega) b11
 replace b20 := Kw6.cell (by omega) b20
 replace b21 := Kw6.cell (by omega) b21
 replace b22 := Kw6.cell (by omega) b22
 replace b30 : w6.cell? ⟨w.heap.size + 1 + 1, 0, none⟩ = some (.slice afb5 cells.length cfb5) := by subst hW11; go_simp
 replace f_b30 : w6.frozen? ⟨w.heap.size + 1 + 1, 0, none⟩ = false := by subst hW11; first | (simp only [World.frozen?_setCell]; with_reducible assumption) | go_simp
 replace b31 : w6.cell? ⟨w.heap.size + 1 + 1, 1, none⟩ = some (.slice pa14 (es.length + 1) pc15) := by subst hW11; go_simp
 replace f_b31 : w6.frozen? ⟨w.heap.size + 1 + 1, 1, none⟩ = false := by subst hW11; first | (simp only [World.frozen?_setCell]; with_reducible assumption) | go_simp
 replace b90 := Kw6.cell (by omega) b90
 replace f_b90 := Kw6.frzO (by omega) z_b9 f_b90
 replace b91 := Kw6.cell (by omega) b91
 replace f_b91 := Kw6.frzO (by omega) z_b9 f_b91
 replace bf4 := bf4.chg Kw6 (by omega)
 clear Kw6
 have z_b1 : w.heap.size < w6.heap.size := qB b10
 have z_b2 : w.heap.size + 1 < w6.heap.size := qB b20
 have z_b3 : w.heap.size + 1 + 1 < w6.heap.size := qB b30
 have z_b9 : w1.heap.size < w6.heap.size := qB b90
 have s_w6 : w.heap.size ≤ w6.heap.size := Xw6.size
 clear hW11
 refine bodyPost_ret (v := .agg #[.slice afb5 cells.length cfb5, .slice pa14 (es.length + 1) pc15]) (by simp only [results, Try.results64]; go_simp) rfl ?_
 exact ⟨_, _, _, rfl, ((bf4.buf.ext qXt).lower (by omega)), (Xw6.trans qXt)⟩

end Go.Proofs.Ytfbbnbpobojboaa

/- Walks: slices of the program. -/
namespace Go.Proofs.Ytfbbnbpobojboaa
open Go.RowKit
set_option linter.unusedVariables false
set_option maxRecDepth 100000

set_option maxHeartbeats 1600000 in
theorem isSlice_tt (F T B : Int) (w : World)  :
  Calls Try.prog 151 #[.agg #[.int .i64 F, .int .i64 T, .int .i64 B, .bool true, .bool true]] w (fun e w' => e = .returned (.bool (sliceB F T B true true)) ∧ Ext w w') := by
 go_enter Try.func151, Try.ntmps151
 by_cases hc2 : (B : Int) = (0 : Int)
 ·
  have hc2e : ((B : Int) == (0 : Int)) = true := by simpa using hc2
  have hc2n : ((B : Int) != (0 : Int)) = false := by simpa using hc2
  replace hc2 := Lib.hid hc2
  go_wp2_with fail
  go_ret
  exact ⟨by rw [show sliceB F T B true true = false by (have k0 := hc2.out; unfold sliceB inB; simp; omega)] <;> rfl, qXt⟩
 ·
  have hc2e : ((B : Int) == (0 : Int)) = false := by simpa using hc2
  have hc2n : ((B : Int) != (0 : Int)) = true := by simpa using hc2
  replace hc2 := Lib.hid hc2
  by_cases hc3 : (B : Int) < (-200 : Int)
  ·
   go_wp2_with fail
   go_ret
   exact ⟨by rw [show sliceB F T B true true = false by (have k0 := hc2.out; have k1 := hc3; unfold sliceB inB; simp; omega)] <;> rfl, qXt⟩
  ·
   by_cases hc4 : (200 : Int) < (B : Int)
   ·
    go_wp2_with fail
    go_ret
    exact ⟨by rw [show sliceB F T B true true = false by (have k0 := hc2.out; have k1 := hc3; have k2 := hc4; unfold sliceB inB; simp; omega)] <;> rfl, qXt⟩
   ·
    by_cases hc5 : (-100 : Int) ≤ (F : Int)
    ·
     by_cases hc6 : (F : Int) ≤ (100 : Int)
     ·
      by_cases hc7 : (-100 : Int) ≤ (T : Int)
      ·
       by_cases hc8 : (T : Int) ≤ (100 : Int)
       ·
        go_wp2_with fail
        go_ret
        exact ⟨by rw [show sliceB F T B true true = true by (have k0 := hc2.out; have k1 := hc3; have k2 := hc4; have k3 := hc5; have k4 := hc6; have k5 := hc7; have k6 := hc8; unfold sliceB inB; simp; omega)] <;> rfl, qXt⟩
       ·
        go_wp2_with fail
        go_ret
        exact ⟨by rw [show sliceB F T B true true = false by (have k0 := hc2.out; have k1 := hc3; have k2 := hc4; have k3 := hc5; have k4 := hc6; have k5 := hc7; have k6 := hc8; unfold sliceB inB; simp; omega)] <;> rfl, qXt⟩
      ·
       go_wp2_with fail
       go_ret
       exact ⟨by rw [show sliceB F T B true true = false by (have k0 := hc2.out; have k1 := hc3; have k2 := hc4; have k3 := hc5; have k4 := hc6; have k5 := hc7; unfold sliceB inB; simp; omega)] <;> rfl, qXt⟩
     ·
      go_wp2_with fail
      go_ret
      exact ⟨by rw [show sliceB F T B true true = false by (have k0 := hc2.out; have k1 := hc3; have k2 := hc4; have k3 := hc5; have k4 := hc6; unfold sliceB inB; simp; omega)] <;> rfl, qXt⟩
    ·
     go_wp2_with fail
     go_ret
     exact ⟨by rw [show sliceB F T B true true = false by (have k0 := hc2.out; have k1 := hc3; have k2 := hc4; have k3 := hc5; unfold sliceB inB; simp; omega)] <;> rfl, qXt⟩

set_option maxHeartbeats 1600000 in
theorem isSlice_tf (F T B : Int) (w : World)  :
  Calls Try.prog 151 #[.agg #[.int .i64 F, .int .i64 T, .int .i64 B, .bool true, .bool false]] w (fun e w' => e = .returned (.bool (sliceB F T B true false)) ∧ Ext w w') := by
 go_enter Try.func151, Try.ntmps151
 by_cases hc2 : (T : Int) = (0 : Int)
 ·
  have hc2e : ((T : Int) == (0 : Int)) = true := by simpa using hc2
  have hc2n : ((T : Int) != (0 : Int)) = false := by simpa using hc2
  replace hc2 := Lib.hid hc2
  by_cases hc3 : (B : Int) = (0 : Int)
  ·
   have hc3e : ((B : Int) == (0 : Int)) = true := by simpa using hc3
   have hc3n : ((B : Int) != (0 : Int)) = false := by simpa using hc3
   replace hc3 := Lib.hid hc3
   go_wp2_with fail
   go_ret
   exact ⟨by rw [show sliceB F T B true false = false by (have k0 := hc2.out; have k1 := hc3.out; unfold sliceB inB; simp; omega)] <;> rfl, qXt⟩
  ·
   have hc3e : ((B : Int) == (0 : Int)) = false := by simpa using hc3
   have hc3n : ((B : Int) != (0 : Int)) = true := by simpa using hc3
   replace hc3 := Lib.hid hc3
   by_cases hc4 : (B : Int) < (-200 : Int)
   ·
    go_wp2_with fail
    go_ret
    exact ⟨by rw [show sliceB F T B true false = false by (have k0 := hc2.out; have k1 := hc3.out; have k2 := hc4; unfold sliceB inB; simp; omega)] <;> rfl, qXt⟩
   ·
    by_cases hc5 : (200 : Int) < (B : Int)
    ·
     go_wp2_with fail
     go_ret
     exact ⟨by rw [show sliceB F T B true false = false by (have k0 := hc2.out; have k1 := hc3.out; have k2 := hc4; have k3 := hc5; unfold sliceB inB; simp; omega)] <;> rfl, qXt⟩
    ·
     by_cases hc6 : (-100 : Int) ≤ (F : Int)
     ·
      by_cases hc7 : (F : Int) ≤ (100 : Int)
      ·
       by_cases hc8 : (-100 : Int) ≤ (T : Int)
       ·
        by_cases hc9 : (T : Int) ≤ (100 : Int)
        ·
         go_wp2_with fail
         go_ret
         exact ⟨by rw [show sliceB F T B true false = true by (have k0 := hc2.out; have k1 := hc3.out; have k2 := hc4; have k3 := hc5; have k4 := hc6; have k5 := hc7; have k6 := hc8; have k7 := hc9; unfold sliceB inB; simp; omega)] <;> rfl, qXt⟩
        ·
         go_wp2_with fail
         go_ret
         exact ⟨by rw [show sliceB F T B true false = false by (have k0 := hc2.out; have k1 := hc3.out; have k2 := hc4; have k3 := hc5; have k4 := hc6; have k5 := hc7; have k6 := hc8; have k7 := hc9; unfold sliceB inB; simp; omega)] <;> rfl, qXt⟩
       ·
        go_wp2_with fail
        go_ret
        exact ⟨by rw [show sliceB F T B true false = false by (have k0 := hc2.out; have k1 := hc3.out; have k2 := hc4; have k3 := hc5; have k4 := hc6; have k5 := hc7; have k6 := hc8; unfold sliceB inB; simp; omega)] <;> rfl, qXt⟩
      ·
       go_wp2_with fail
       go_ret
       exact ⟨by rw [show sliceB F T B true false = false by (have k0 := hc2.out; have k1 := hc3.out; have k2 := hc4; have k3 := hc5; have k4 := hc6; have k5 := hc7; unfold sliceB inB; simp; omega)] <;> rfl, qXt⟩
     ·
      go_wp2_with fail
      go_ret
      exact ⟨by rw [show sliceB F T B true false = false by (have k0 := hc2.out; have k1 := hc3.out; have k2 := hc4; have k3 := hc5; have k4 := hc6; unfold sliceB inB; simp; omega)] <;> rfl, qXt⟩
 ·
  have hc2e : ((T : Int) == (0 : Int)) = false := by simpa using hc2
  have hc2n : ((T : Int) != (0 : Int)) = true := by simpa using hc2
  replace hc2 := Lib.hid hc2
  go_wp2_with fail
  go_ret
  exact ⟨by rw [show sliceB F T B true false = false by (have k0 := hc2.out; unfold sliceB inB; simp; omega)] <;> rfl, qXt⟩

set_option maxHeartbeats 1600000 in
theorem isSlice_ft (F T B : Int) (w : World)  :
  Calls Try.prog 151 #[.agg #[.int .i64 F, .int .i64 T, .int .i64 B, .bool false, .bool true]] w (fun e w' => e = .returned (.bool (sliceB F T B false true)) ∧ Ext w w') := by
 go_enter Try.func151, Try.ntmps151
 by_cases hc2 : (F : Int) = (0 : Int)
 ·
  have hc2e : ((F : Int) == (0 : Int)) = true := by simpa using hc2
  have hc2n : ((F : Int) != (0 : Int)) = false := by simpa using hc2
  replace hc2 := Lib.hid hc2
  by_cases hc3 : (B : Int) = (0 : Int)
  ·
   have hc3e : ((B : Int) == (0 : Int)) = true := by simpa using hc3
   have hc3n : ((B : Int) != (0 : Int)) = false := by simpa using hc3
   replace hc3 := Lib.hid hc3
   go_wp2_with fail
   go_ret
   exact ⟨by rw [show sliceB F T B false true = false by (have k0 := hc2.out; have k1 := hc3.out; unfold sliceB inB; simp; omega)] <;> rfl, qXt⟩
  ·
   have hc3e : ((B : Int) == (0 : Int)) = false := by simpa using hc3
   have hc3n : ((B : Int) != (0 : Int)) = true := by simpa using hc3
   replace hc3 := Lib.hid hc3
   by_cases hc4 : (B : Int) < (-200 : Int)
   ·
    go_wp2_with fail
    go_ret
    exact ⟨by rw [show sliceB F T B false true = false by (have k0 := hc2.out; have k1 := hc3.out; have k2 := hc4; unfold sliceB inB; simp; omega)] <;> rfl, qXt⟩
   ·
    by_cases hc5 : (200 : Int) < (B : Int)
    ·
     go_wp2_with fail
     go_ret
     exact ⟨by rw [show sliceB F T B false true = false by (have k0 := hc2.out; have k1 := hc3.out; have k2 := hc4; have k3 := hc5; unfold sliceB inB; simp; omega)] <;> rfl, qXt⟩
    ·
     by_cases hc6 : (-100 : Int) ≤ (F : Int)
     ·
      by_cases hc7 : (F : Int) ≤ (100 : Int)
      ·
       by_cases hc8 : (-100 : Int) ≤ (T : Int)
       ·
        by_cases hc9 : (T : Int) ≤ (100 : Int)
        ·
         go_wp2_with fail
         go_ret
         exact ⟨by rw [show sliceB F T B false true = true by (have k0 := hc2.out; have k1 := hc3.out; have k2 := hc4; have k3 := hc5; have k4 := hc6; have k5 := hc7; have k6 := hc8; have k7 := hc9; unfold sliceB inB; simp; omega)] <;> rfl, qXt⟩
        ·
         go_wp2_with fail
         go_ret
         exact ⟨by rw [show sliceB F T B false true = false by (have k0 := hc2.out; have k1 := hc3.out; have k2 := hc4; have k3 := hc5; have k4 := hc6; have k5 := hc7; have k6 := hc8; have k7 := hc9; unfold sliceB inB; simp; omega)] <;> rfl, qXt⟩
       ·
        go_wp2_with fail
        go_ret
        exact ⟨by rw [show sliceB F T B false true = false by (have k0 := hc2.out; have k1 := hc3.out; have k2 := hc4; have k3 := hc5; have k4 := hc6; have k5 := hc7; have k6 := hc8; unfold sliceB inB; simp; omega)] <;> rfl, qXt⟩
      ·
       go_wp2_with fail
       go_ret
       exact ⟨by rw [show sliceB F T B false true = false by (have k0 := hc2.out; have k1 := hc3.out; have k2 := hc4; have k3 := hc5; have k4 := hc6; have k5 := hc7; unfold sliceB inB; simp; omega)] <;> rfl, qXt⟩
     ·
      go_wp2_with fail
      go_ret
      exact ⟨by rw [show sliceB F T B false true = false by (have k0 := hc2.out; have k1 := hc3.out; have k2 := hc4; have k3 := hc5; have k4 := hc6; unfold sliceB inB; simp; omega)] <;> rfl, qXt⟩
 ·
  have hc2e : ((F : Int) == (0 : Int)) = false := by simpa using hc2
  have hc2n : ((F : Int) != (0 : Int)) = true := by simpa using hc2
  replace hc2 := Lib.hid hc2
  go_wp2_with fail
  go_ret
  exact ⟨by rw [show sliceB F T B false true = false by (have k0 := hc2.out; unfold sliceB inB; simp; omega)] <;> rfl, qXt⟩

set_option maxHeartbeats 1600000 in
theorem isSlice_ff (F T B : Int) (w : World)  :
  Calls Try.prog 151 #[.agg #[.int .i64 F, .int .i64 T, .int .i64 B, .bool false, .bool false]] w (fun e w' => e = .returned (.bool (sliceB F T B false false)) ∧ Ext w w') := by
 go_enter Try.func151, Try.ntmps151
 by_cases hc2 : (F : Int) = (0 : Int)
 ·
  have hc2e : ((F : Int) == (0 : Int)) = true := by simpa using hc2
  have hc2n : ((F : Int) != (0 : Int)) = false := by simpa using hc2
  replace hc2 := Lib.hid hc2
  by_cases hc3 : (T : Int) = (0 : Int)
  ·
   have hc3e : ((T : Int) == (0 : Int)) = true := by simpa using hc3
   have hc3n : ((T : Int) != (0 : Int)) = false := by simpa using hc3
   replace hc3 := Lib.hid hc3
   by_cases hc4 : (B : Int) = (0 : Int)
   ·
    have hc4e : ((B : Int) == (0 : Int)) = true := by simpa using hc4
    have hc4n : ((B : Int) != (0 : Int)) = false := by simpa using hc4
    replace hc4 := Lib.hid hc4
    go_wp2_with fail
    go_ret
    exact ⟨by rw [show sliceB F T B false false = false by (have k0 := hc2.out; have k1 := hc3.out; have k2 := hc4.out; unfold sliceB inB; simp; omega)] <;> rfl, qXt⟩
   ·
    have hc4e : ((B : Int) == (0 : Int)) = false := by simpa using hc4
    have hc4n : ((B : Int) != (0 : Int)) = true := by simpa using hc4
    replace hc4 := Lib.hid hc4
    by_cases hc5 : (B : Int) < (-200 : Int)
    ·
     go_wp2_with fail
     go_ret
     exact ⟨by rw [show sliceB F T B false false = false by (have k0 := hc2.out; have k1 := hc3.out; have k2 := hc4.out; have k3 := hc5; unfold sliceB inB; simp; omega)] <;> rfl, qXt⟩
    ·
     by_cases hc6 : (200 : Int) < (B : Int)
     ·
      go_wp2_with fail
      go_ret
      exact ⟨by rw [show sliceB F T B false false = false by (have k0 := hc2.out; have k1 := hc3.out; have k2 := hc4.out; have k3 := hc5; have k4 := hc6; unfold sliceB inB; simp; omega)] <;> rfl, qXt⟩
     ·
      by_cases hc7 : (-100 : Int) ≤ (F : Int)
      ·
       by_cases hc8 : (F : Int) ≤ (100 : Int)
       ·
        by_cases hc9 : (-100 : Int) ≤ (T : Int)
        ·
         by_cases hc10 : (T : Int) ≤ (100 : Int)
         ·
          go_wp2_with fail
          go_ret
          exact ⟨by rw [show sliceB F T B false false = true by (have k0 := hc2.out; have k1 := hc3.out; have k2 := hc4.out; have k3 := hc5; have k4 := hc6; have k5 := hc7; have k6 := hc8; have k7 := hc9; have k8 := hc10; unfold sliceB inB; simp; omega)] <;> rfl, qXt⟩
         ·
          go_wp2_with fail
          go_ret
          exact ⟨by rw [show sliceB F T B false false = false by (have k0 := hc2.out; have k1 := hc3.out; have k2 := hc4.out; have k3 := hc5; have k4 := hc6; have k5 := hc7; have k6 := hc8; have k7 := hc9; have k8 := hc10; unfold sliceB inB; simp; omega)] <;> rfl, qXt⟩
        ·
         go_wp2_with fail
         go_ret
         exact ⟨by rw [show sliceB F T B false false = false by (have k0 := hc2.out; have k1 := hc3.out; have k2 := hc4.out; have k3 := hc5; have k4 := hc6; have k5 := hc7; have k6 := hc8; have k7 := hc9; unfold sliceB inB; simp; omega)] <;> rfl, qXt⟩
       ·
        go_wp2_with fail
        go_ret
        exact ⟨by rw [show sliceB F T B false false = false by (have k0 := hc2.out; have k1 := hc3.out; have k2 := hc4.out; have k3 := hc5; have k4 := hc6; have k5 := hc7; have k6 := hc8; unfold sliceB inB; simp; omega)] <;> rfl, qXt⟩
      ·
       go_wp2_with fail
       go_ret
       exact ⟨by rw [show sliceB F T B false false = false by (have k0 := hc2.out; have k1 := hc3.out; have k2 := hc4.out; have k3 := hc5; have k4 := hc6; have k5 := hc7; unfold sliceB inB; simp; omega)] <;> rfl, qXt⟩
  ·
   have hc3e : ((T : Int) == (0 : Int)) = false := by simpa using hc3
   have hc3n : ((T : Int) != (0 : Int)) = true := by simpa using hc3
   replace hc3 := Lib.hid hc3
   go_wp2_with fail
   go_ret
   exact ⟨by rw [show sliceB F T B false false = false by (have k0 := hc2.out; have k1 := hc3.out; unfold sliceB inB; simp; omega)] <;> rfl, qXt⟩
 ·
  have hc2e : ((F : Int) == (0 : Int)) = false := by simpa using hc2
  have hc2n : ((F : Int) != (0 : Int)) = true := by simpa using hc2
  replace hc2 := Lib.hid hc2
  go_wp2_with fail
  go_ret
  exact ⟨by rw [show sliceB F T B false false = false by (have k0 := hc2.out; unfold sliceB inB; simp; omega)] <;> rfl, qXt⟩

set_option maxHeartbeats 1600000 in
theorem isSlice_c (F T B : Int) (hf ht : Bool) (w : World)  :
  Calls Try.prog 151 #[.agg #[.int .i64 F, .int .i64 T, .int .i64 B, .bool hf, .bool ht]] w (fun e w' => e = .returned (.bool (sliceB F T B hf ht)) ∧ Ext w w') := by
 cases hf <;> cases ht
 ·
  exact isSlice_ff F T B w
 ·
  exact isSlice_ft F T B w
 ·
  exact isSlice_tf F T B w
 ·
  exact isSlice_tt F T B w

set_option maxHeartbeats 1600000 in
theorem endOf_c (n x b : Int) (w : World) (hn : 0 ≤ n ∧ n ≤ 200) (hx : -200 ≤ x ∧ x ≤ 200) :
  Calls Try.prog 193 #[.int .i64 n, .int .i64 x, .int .i64 b] w (fun e w' => e = .returned (.int .i64 (boundI n x b)) ∧ w = w') := by
 go_enter Try.func193, Try.ntmps193
 by_cases hc1 : (x : Int) < (0 : Int)
 ·
  by_cases hc2 : (b : Int) < (0 : Int)
  ·
   go_wp2_with fail
   go_ret
   exact ⟨by rw [show boundI n x b = min (max (x + n) (-1)) (n - 1) by (have k0 := hc1; have k1 := hc2; unfold boundI; (repeat' split) <;> omega)] <;> rfl, rfl⟩
  ·
   go_wp2_with fail
   go_ret
   exact ⟨by rw [show boundI n x b = min (max (x + n) 0) n by (have k0 := hc1; have k1 := hc2; unfold boundI; (repeat' split) <;> omega)] <;> rfl, rfl⟩
 ·
  by_cases hc3 : (b : Int) < (0 : Int)
  ·
   go_wp2_with fail
   go_ret
   exact ⟨by rw [show boundI n x b = min (max x (-1)) (n - 1) by (have k0 := hc1; have k1 := hc3; unfold boundI; (repeat' split) <;> omega)] <;> rfl, rfl⟩
  ·
   go_wp2_with fail
   go_ret
   exact ⟨by rw [show boundI n x b = min (max x 0) n by (have k0 := hc1; have k1 := hc3; unfold boundI; (repeat' split) <;> omega)] <;> rfl, rfl⟩

set_option maxHeartbeats 1600000 in
theorem indicesOf_tt (n F T B : Int) (w : World) (hn : 0 ≤ n ∧ n ≤ 200) (hs : (-100 ≤ F ∧ F ≤ 100) ∧ (-100 ≤ T ∧ T ≤ 100) ∧ (-200 ≤ B ∧ B ≤ 200) ∧ B ≠ 0) :
  Calls Try.prog 178 #[.int .i64 n, .agg #[.int .i64 F, .int .i64 T, .int .i64 B, .bool true, .bool true]] w (PInts w (idxS n F T B true true)) := by
 go_enter Try.func178, Try.ntmps178
 by_cases hc3 : (B : Int) < (0 : Int)
 ·
  go_wp2_with fail
  refine (endOf_c n F B _ (by omega) (by omega)).mono ?_
  rintro e w' ⟨rfl, rfl⟩
  go_wp2_with fail
  refine (endOf_c n T B _ (by omega) (by omega)).mono ?_
  rintro e w' ⟨rfl, rfl⟩
  go_wp2_with fail
  refine (numbersOf_c (boundI n F B) (boundI n T B) B _ (by have := boundI_in (n := n) (x := F) (b := B) hn.1; have := boundI_in (n := n) (x := T) (b := B) hn.1; omega) (by have := boundI_in (n := n) (x := F) (b := B) hn.1; have := boundI_in (n := n) (x := T) (b := B) hn.1; omega) (by have := boundI_in (n := n) (x := F) (b := B) hn.1; have := boundI_in (n := n) (x := T) (b := B) hn.1; omega) hs.2.2.2).mono ?_
  rintro e w1 ⟨fv4, rfl, i5, i5z, xw1⟩
  have Lw1 : Ext w w1 := Ext.trans qXt xw1
  have Xw1 : Ext w w1 := Lw1
  have b10 : w1.cell? ⟨w.heap.size, 0, none⟩ = some (.int .i64 F) := xw1.cell qCl
  have b11 : w1.cell? ⟨w.heap.size, 1, none⟩ = some (.int .i64 T) := xw1.cell qCl
  have b12 : w1.cell? ⟨w.heap.size, 2, none⟩ = some (.int .i64 B) := xw1.cell qCl
  have b13 : w1.cell? ⟨w.heap.size, 3, none⟩ = some (.bool true) := xw1.cell qCl
  have b14 : w1.cell? ⟨w.heap.size, 4, none⟩ = some (.bool true) := xw1.cell qCl
  have b20 : w1.cell? ⟨w.heap.size + 1, 0, none⟩ = some (.int .i64 (boundI n F B)) := xw1.cell qCl
  have b21 : w1.cell? ⟨w.heap.size + 1, 1, none⟩ = some (.int .i64 (boundI n T B)) := xw1.cell qCl
  have b22 : w1.cell? ⟨w.heap.size + 1, 2, none⟩ = some (.int .i64 B) := xw1.cell qCl
  have f_b20 : w1.frozen? ⟨w.heap.size + 1, 0, none⟩ = false := xw1.frz (by simp <;> omega) qFz
  have f_b21 : w1.frozen? ⟨w.heap.size + 1, 1, none⟩ = false := xw1.frz (by simp <;> omega) qFz
  have f_b22 : w1.frozen? ⟨w.heap.size + 1, 2, none⟩ = false := xw1.frz (by simp <;> omega) qFz
  have z_b1 : w.heap.size < w1.heap.size := qB b10
  have z_b2 : w.heap.size + 1 < w1.heap.size := qB b20
  have s_w1 : w.heap.size ≤ w1.heap.size := Xw1.size
  clear xw1
  try simp only [World.size_alloc, World.size_drew] at i5
  try simp only [World.size_alloc, World.size_drew] at i5z
  obtain ⟨afv4, cfv4, rfl⟩ := i5.form
  go_wp2_with fail
  go_ret
  rw [show idxS n F T B true true = numL (boundI n F B) (boundI n T B) B by (have k0 := hc3; unfold idxS fromI toI; simp only [reduceIte, Bool.false_eq_true] <;> (repeat' split) <;> first | rfl | (exfalso; omega))]
  exact ⟨_, rfl, i5.lower (by omega), i5z.lower (by omega), Xw1⟩
 ·
  go_wp2_with fail
  refine (endOf_c n F B _ (by omega) (by omega)).mono ?_
  rintro e w' ⟨rfl, rfl⟩
  go_wp2_with fail
  refine (endOf_c n T B _ (by omega) (by omega)).mono ?_
  rintro e w' ⟨rfl, rfl⟩
  go_wp2_with fail
  refine (numbersOf_c (boundI n F B) (boundI n T B) B _ (by have := boundI_in (n := n) (x := F) (b := B) hn.1; have := boundI_in (n := n) (x := T) (b := B) hn.1; omega) (by have := boundI_in (n := n) (x := F) (b := B) hn.1; have := boundI_in (n := n) (x := T) (b := B) hn.1; omega) (by have := boundI_in (n := n) (x := F) (b := B) hn.1; have := boundI_in (n := n) (x := T) (b := B) hn.1; omega) hs.2.2.2).mono ?_
  rintro e w1 ⟨fv6, rfl, i7, i7z, xw1⟩
  have Lw1 : Ext w w1 := Ext.trans qXt xw1
  have Xw1 : Ext w w1 := Lw1
  have b10 : w1.cell? ⟨w.heap.size, 0, none⟩ = some (.int .i64 F) := xw1.cell qCl
  have b11 : w1.cell? ⟨w.heap.size, 1, none⟩ = some (.int .i64 T) := xw1.cell qCl
  have b12 : w1.cell? ⟨w.heap.size, 2, none⟩ = some (.int .i64 B) := xw1.cell qCl
  have b13 : w1.cell? ⟨w.heap.size, 3, none⟩ = some (.bool true) := xw1.cell qCl
  have b14 : w1.cell? ⟨w.heap.size, 4, none⟩ = some (.bool true) := xw1.cell qCl
  have b20 : w1.cell? ⟨w.heap.size + 1, 0, none⟩ = some (.int .i64 (boundI n F B)) := xw1.cell qCl
  have b21 : w1.cell? ⟨w.heap.size + 1, 1, none⟩ = some (.int .i64 (boundI n T B)) := xw1.cell qCl
  have b22 : w1.cell? ⟨w.heap.size + 1, 2, none⟩ = some (.int .i64 B) := xw1.cell qCl
  have f_b20 : w1.frozen? ⟨w.heap.size + 1, 0, none⟩ = false := xw1.frz (by simp <;> omega) qFz
  have f_b21 : w1.frozen? ⟨w.heap.size + 1, 1, none⟩ = false := xw1.frz (by simp <;> omega) qFz
  have f_b22 : w1.frozen? ⟨w.heap.size + 1, 2, none⟩ = false := xw1.frz (by simp <;> omega) qFz
  have z_b1 : w.heap.size < w1.heap.size := qB b10
  have z_b2 : w.heap.size + 1 < w1.heap.size := qB b20
  have s_w1 : w.heap.size ≤ w1.heap.size := Xw1.size
  clear xw1
  try simp only [World.size_alloc, World.size_drew] at i7
  try simp only [World.size_alloc, World.size_drew] at i7z
  obtain ⟨afv6, cfv6, rfl⟩ := i7.form
  go_wp2_with fail
  go_ret
  rw [show idxS n F T B true true = numL (boundI n F B) (boundI n T B) B by (have k0 := hc3; unfold idxS fromI toI; simp only [reduceIte, Bool.false_eq_true] <;> (repeat' split) <;> first | rfl | (exfalso; omega))]
  exact ⟨_, rfl, i7.lower (by omega), i7z.lower (by omega), Xw1⟩

set_option maxHeartbeats 1600000 in
theorem indicesOf_tf (n F T B : Int) (w : World) (hn : 0 ≤ n ∧ n ≤ 200) (hs : (-100 ≤ F ∧ F ≤ 100) ∧ (-100 ≤ T ∧ T ≤ 100) ∧ (-200 ≤ B ∧ B ≤ 200) ∧ B ≠ 0) :
  Calls Try.prog 178 #[.int .i64 n, .agg #[.int .i64 F, .int .i64 T, .int .i64 B, .bool true, .bool false]] w (PInts w (idxS n F T B true false)) := by
 go_enter Try.func178, Try.ntmps178
 by_cases hc3 : (B : Int) < (0 : Int)
 ·
  go_wp2_with fail
  refine (endOf_c n F B _ (by omega) (by omega)).mono ?_
  rintro e w' ⟨rfl, rfl⟩
  go_wp2_with fail
  refine (numbersOf_c (boundI n F B) (-1) B _ (by have := boundI_in (n := n) (x := F) (b := B) hn.1; have := boundI_in (n := n) (x := T) (b := B) hn.1; omega) (by have := boundI_in (n := n) (x := F) (b := B) hn.1; have := boundI_in (n := n) (x := T) (b := B) hn.1; omega) (by have := boundI_in (n := n) (x := F) (b := B) hn.1; have := boundI_in (n := n) (x := T) (b := B) hn.1; omega) hs.2.2.2).mono ?_
  rintro e w1 ⟨fv4, rfl, i5, i5z, xw1⟩
  have Lw1 : Ext w w1 := Ext.trans qXt xw1
  have Xw1 : Ext w w1 := Lw1
  have b10 : w1.cell? ⟨w.heap.size, 0, none⟩ = some (.int .i64 F) := xw1.cell qCl
  have b11 : w1.cell? ⟨w.heap.size, 1, none⟩ = some (.int .i64 T) := xw1.cell qCl
  have b12 : w1.cell? ⟨w.heap.size, 2, none⟩ = some (.int .i64 B) := xw1.cell qCl
  have b13 : w1.cell? ⟨w.heap.size, 3, none⟩ = some (.bool true) := xw1.cell qCl
  have b14 : w1.cell? ⟨w.heap.size, 4, none⟩ = some (.bool false) := xw1.cell qCl
  have b20 : w1.cell? ⟨w.heap.size + 1, 0, none⟩ = some (.int .i64 (boundI n F B)) := xw1.cell qCl
  have b21 : w1.cell? ⟨w.heap.size + 1, 1, none⟩ = some (.int .i64 (-1)) := xw1.cell qCl
  have b22 : w1.cell? ⟨w.heap.size + 1, 2, none⟩ = some (.int .i64 B) := xw1.cell qCl
  have f_b20 : w1.frozen? ⟨w.heap.size + 1, 0, none⟩ = false := xw1.frz (by simp <;> omega) qFz
  have f_b21 : w1.frozen? ⟨w.heap.size + 1, 1, none⟩ = false := xw1.frz (by simp <;> omega) qFz
  have f_b22 : w1.frozen? ⟨w.heap.size + 1, 2, none⟩ = false := xw1.frz (by simp <;> omega) qFz
  have z_b1 : w.heap.size < w1.heap.size := qB b10
  have z_b2 : w.heap.size + 1 < w1.heap.size := qB b20
  have s_w1 : w.heap.size ≤ w1.heap.size := Xw1.size
  clear xw1
  try simp only [World.size_alloc, World.size_drew] at i5
  try simp only [World.size_alloc, World.size_drew] at i5z
  obtain ⟨afv4, cfv4, rfl⟩ := i5.form
  go_wp2_with fail
  go_ret
  rw [show idxS n F T B true false = numL (boundI n F B) (-1) B by (have k0 := hc3; unfold idxS fromI toI; simp only [reduceIte, Bool.false_eq_true] <;> (repeat' split) <;> first | rfl | (exfalso; omega))]
  exact ⟨_, rfl, i5.lower (by omega), i5z.lower (by omega), Xw1⟩
 ·
  go_wp2_with fail
  refine (endOf_c n F B _ (by omega) (by omega)).mono ?_
  rintro e w' ⟨rfl, rfl⟩
  go_wp2_with fail
  refine (numbersOf_c (boundI n F B) n B _ (by have := boundI_in (n := n) (x := F) (b := B) hn.1; have := boundI_in (n := n) (x := T) (b := B) hn.1; omega) (by have := boundI_in (n := n) (x := F) (b := B) hn.1; have := boundI_in (n := n) (x := T) (b := B) hn.1; omega) (by have := boundI_in (n := n) (x := F) (b := B) hn.1; have := boundI_in (n := n) (x := T) (b := B) hn.1; omega) hs.2.2.2).mono ?_
  rintro e w1 ⟨fv6, rfl, i7, i7z, xw1⟩
  have Lw1 : Ext w w1 := Ext.trans qXt xw1
  have Xw1 : Ext w w1 := Lw1
  have b10 : w1.cell? ⟨w.heap.size, 0, none⟩ = some (.int .i64 F) := xw1.cell qCl
  have b11 : w1.cell? ⟨w.heap.size, 1, none⟩ = some (.int .i64 T) := xw1.cell qCl
  have b12 : w1.cell? ⟨w.heap.size, 2, none⟩ = some (.int .i64 B) := xw1.cell qCl
  have b13 : w1.cell? ⟨w.heap.size, 3, none⟩ = some (.bool true) := xw1.cell qCl
  have b14 : w1.cell? ⟨w.heap.size, 4, none⟩ = some (.bool false) := xw1.cell qCl
  have b20 : w1.cell? ⟨w.heap.size + 1, 0, none⟩ = some (.int .i64 (boundI n F B)) := xw1.cell qCl
  have b21 : w1.cell? ⟨w.heap.size + 1, 1, none⟩ = some (.int .i64 n) := xw1.cell qCl
  have b22 : w1.cell? ⟨w.heap.size + 1, 2, none⟩ = some (.int .i64 B) := xw1.cell qCl
  have f_b20 : w1.frozen? ⟨w.heap.size + 1, 0, none⟩ = false := xw1.frz (by simp <;> omega) qFz
  have f_b21 : w1.frozen? ⟨w.heap.size + 1, 1, none⟩ = false := xw1.frz (by simp <;> omega) qFz
  have f_b22 : w1.frozen? ⟨w.heap.size + 1, 2, none⟩ = false := xw1.frz (by simp <;> omega) qFz
  have z_b1 : w.heap.size < w1.heap.size := qB b10
  have z_b2 : w.heap.size + 1 < w1.heap.size := qB b20
  have s_w1 : w.heap.size ≤ w1.heap.size := Xw1.size
  clear xw1
  try simp only [World.size_alloc, World.size_drew] at i7
  try simp only [World.size_alloc, World.size_drew] at i7z
  obtain ⟨afv6, cfv6, rfl⟩ := i7.form
  go_wp2_with fail
  go_ret
  rw [show idxS n F T B true false = numL (boundI n F B) n B by (have k0 := hc3; unfold idxS fromI toI; simp only [reduceIte, Bool.false_eq_true] <;> (repeat' split) <;> first | rfl | (exfalso; omega))]
  exact ⟨_, rfl, i7.lower (by omega), i7z.lower (by omega), Xw1⟩

set_option maxHeartbeats 1600000 in
theorem indicesOf_ft (n F T B : Int) (w : World) (hn : 0 ≤ n ∧ n ≤ 200) (hs : (-100 ≤ F ∧ F ≤ 100) ∧ (-100 ≤ T ∧ T ≤ 100) ∧ (-200 ≤ B ∧ B ≤ 200) ∧ B ≠ 0) :
  Calls Try.prog 178 #[.int .i64 n, .agg #[.int .i64 F, .int .i64 T, .int .i64 B, .bool false, .bool true]] w (PInts w (idxS n F T B false true)) := by
 go_enter Try.func178, Try.ntmps178
 by_cases hc3 : (B : Int) < (0 : Int)
 ·
  go_wp2_with fail
  refine (endOf_c n T B _ (by omega) (by omega)).mono ?_
  rintro e w' ⟨rfl, rfl⟩
  go_wp2_with fail
  refine (numbersOf_c (n - 1) (boundI n T B) B _ (by have := boundI_in (n := n) (x := F) (b := B) hn.1; have := boundI_in (n := n) (x := T) (b := B) hn.1; omega) (by have := boundI_in (n := n) (x := F) (b := B) hn.1; have := boundI_in (n := n) (x := T) (b := B) hn.1; omega) (by have := boundI_in (n := n) (x := F) (b := B) hn.1; have := boundI_in (n := n) (x := T) (b := B) hn.1; omega) hs.2.2.2).mono ?_
  rintro e w1 ⟨fv4, rfl, i5, i5z, xw1⟩
  have Lw1 : Ext w w1 := Ext.trans qXt xw1
  have Xw1 : Ext w w1 := Lw1
  have b10 : w1.cell? ⟨w.heap.size, 0, none⟩ = some (.int .i64 F) := xw1.cell qCl
  have b11 : w1.cell? ⟨w.heap.size, 1, none⟩ = some (.int .i64 T) := xw1.cell qCl
  have b12 : w1.cell? ⟨w.heap.size, 2, none⟩ = some (.int .i64 B) := xw1.cell qCl
  have b13 : w1.cell? ⟨w.heap.size, 3, none⟩ = some (.bool false) := xw1.cell qCl
  have b14 : w1.cell? ⟨w.heap.size, 4, none⟩ = some (.bool true) := xw1.cell qCl
  have b20 : w1.cell? ⟨w.heap.size + 1, 0, none⟩ = some (.int .i64 (n - 1)) := xw1.cell qCl
  have b21 : w1.cell? ⟨w.heap.size + 1, 1, none⟩ = some (.int .i64 (boundI n T B)) := xw1.cell qCl
  have b22 : w1.cell? ⟨w.heap.size + 1, 2, none⟩ = some (.int .i64 B) := xw1.cell qCl
  have f_b20 : w1.frozen? ⟨w.heap.size + 1, 0, none⟩ = false := xw1.frz (by simp <;> omega) qFz
  have f_b21 : w1.frozen? ⟨w.heap.size + 1, 1, none⟩ = false := xw1.frz (by simp <;> omega) qFz
  have f_b22 : w1.frozen? ⟨w.heap.size + 1, 2, none⟩ = false := xw1.frz (by simp <;> omega) qFz
  have z_b1 : w.heap.size < w1.heap.size := qB b10
  have z_b2 : w.heap.size + 1 < w1.heap.size := qB b20
  have s_w1 : w.heap.size ≤ w1.heap.size := Xw1.size
  clear xw1
  try simp only [World.size_alloc, World.size_drew] at i5
  try simp only [World.size_alloc, World.size_drew] at i5z
  obtain ⟨afv4, cfv4, rfl⟩ := i5.form
  go_wp2_with fail
  go_ret
  rw [show idxS n F T B false true = numL (n - 1) (boundI n T B) B by (have k0 := hc3; unfold idxS fromI toI; simp only [reduceIte, Bool.false_eq_true] <;> (repeat' split) <;> first | rfl | (exfalso; omega))]
  exact ⟨_, rfl, i5.lower (by omega), i5z.lower (by omega), Xw1⟩
 ·
  go_wp2_with fail
  refine (endOf_c n T B _ (by omega) (by omega)).mono ?_
  rintro e w' ⟨rfl, rfl⟩
  go_wp2_with fail
  refine (numbersOf_c 0 (boundI n T B) B _ (by have := boundI_in (n := n) (x := F) (b := B) hn.1; have := boundI_in (n := n) (x := T) (b := B) hn.1; omega) (by have := boundI_in (n := n) (x := F) (b := B) hn.1; have := boundI_in (n := n) (x := T) (b := B) hn.1; omega) (by have := boundI_in (n := n) (x := F) (b := B) hn.1; have := boundI_in (n := n) (x := T) (b := B) hn.1; omega) hs.2.2.2).mono ?_
  rintro e w1 ⟨fv6, rfl, i7, i7z, xw1⟩
  have Lw1 : Ext w w1 := Ext.trans qXt xw1
  have Xw1 : Ext w w1 := Lw1
  have b10 : w1.cell? ⟨w.heap.size, 0, none⟩ = some (.int .i64 F) := xw1.cell qCl
  have b11 : w1.cell? ⟨w.heap.size, 1, none⟩ = some (.int .i64 T) := xw1.cell qCl
  have b12 : w1.cell? ⟨w.heap.size, 2, none⟩ = some (.int .i64 B) := xw1.cell qCl
  have b13 : w1.cell? ⟨w.heap.size, 3, none⟩ = some (.bool false) := xw1.cell qCl
  have b14 : w1.cell? ⟨w.heap.size, 4, none⟩ = some (.bool true) := xw1.cell qCl
  have b20 : w1.cell? ⟨w.heap.size + 1, 0, none⟩ = some (.int .i64 0) := xw1.cell qCl
  have b21 : w1.cell? ⟨w.heap.size + 1, 1, none⟩ = some (.int .i64 (boundI n T B)) := xw1.cell qCl
  have b22 : w1.cell? ⟨w.heap.size + 1, 2, none⟩ = some (.int .i64 B) := xw1.cell qCl
  have f_b20 : w1.frozen? ⟨w.heap.size + 1, 0, none⟩ = false := xw1.frz (by simp <;> omega) qFz
  have f_b21 : w1.frozen? ⟨w.heap.size + 1, 1, none⟩ = false := xw1.frz (by simp <;> omega) qFz
  have f_b22 : w1.frozen? ⟨w.heap.size + 1, 2, none⟩ = false := xw1.frz (by simp <;> omega) qFz
  have z_b1 : w.heap.size < w1.heap.size := qB b10
  have z_b2 : w.heap.size + 1 < w1.heap.size := qB b20
  have s_w1 : w.heap.size ≤ w1.heap.size := Xw1.size
  clear xw1
  try simp only [World.size_alloc, World.size_drew] at i7
  try simp only [World.size_alloc, World.size_drew] at i7z
  obtain ⟨afv6, cfv6, rfl⟩ := i7.form
  go_wp2_with fail
  go_ret
  rw [show idxS n F T B false true = numL 0 (boundI n T B) B by (have k0 := hc3; unfold idxS fromI toI; simp only [reduceIte, Bool.false_eq_true] <;> (repeat' split) <;> first | rfl | (exfalso; omega))]
  exact ⟨_, rfl, i7.lower (by omega), i7z.lower (by omega), Xw1⟩

set_option maxHeartbeats 1600000 in
theorem indicesOf_ff (n F T B : Int) (w : World) (hn : 0 ≤ n ∧ n ≤ 200) (hs : (-100 ≤ F ∧ F ≤ 100) ∧ (-100 ≤ T ∧ T ≤ 100) ∧ (-200 ≤ B ∧ B ≤ 200) ∧ B ≠ 0) :
  Calls Try.prog 178 #[.int .i64 n, .agg #[.int .i64 F, .int .i64 T, .int .i64 B, .bool false, .bool false]] w (PInts w (idxS n F T B false false)) := by
 go_enter Try.func178, Try.ntmps178
 by_cases hc3 : (B : Int) < (0 : Int)
 ·
  go_wp2_with fail
  refine (numbersOf_c (n - 1) (-1) B _ (by have := boundI_in (n := n) (x := F) (b := B) hn.1; have := boundI_in (n := n) (x := T) (b := B) hn.1; omega) (by have := boundI_in (n := n) (x := F) (b := B) hn.1; have := boundI_in (n := n) (x := T) (b := B) hn.1; omega) (by have := boundI_in (n := n) (x := F) (b := B) hn.1; have := boundI_in (n := n) (x := T) (b := B) hn.1; omega) hs.2.2.2).mono ?_
  rintro e w1 ⟨fv4, rfl, i5, i5z, xw1⟩
  have Lw1 : Ext w w1 := Ext.trans qXt xw1
  have Xw1 : Ext w w1 := Lw1
  have b10 : w1.cell? ⟨w.heap.size, 0, none⟩ = some (.int .i64 F) := xw1.cell qCl
  have b11 : w1.cell? ⟨w.heap.size, 1, none⟩ = some (.int .i64 T) := xw1.cell qCl
  have b12 : w1.cell? ⟨w.heap.size, 2, none⟩ = some (.int .i64 B) := xw1.cell qCl
  have b13 : w1.cell? ⟨w.heap.size, 3, none⟩ = some (.bool false) := xw1.cell qCl
  have b14 : w1.cell? ⟨w.heap.size, 4, none⟩ = some (.bool false) := xw1.cell qCl
  have b20 : w1.cell? ⟨w.heap.size + 1, 0, none⟩ = some (.int .i64 (n - 1)) := xw1.cell qCl
  have b21 : w1.cell? ⟨w.heap.size + 1, 1, none⟩ = some (.int .i64 (-1)) := xw1.cell qCl
  have b22 : w1.cell? ⟨w.heap.size + 1, 2, none⟩ = some (.int .i64 B) := xw1.cell qCl
  have f_b20 : w1.frozen? ⟨w.heap.size + 1, 0, none⟩ = false := xw1.frz (by simp <;> omega) qFz
  have f_b21 : w1.frozen? ⟨w.heap.size + 1, 1, none⟩ = false := xw1.frz (by simp <;> omega) qFz
  have f_b22 : w1.frozen? ⟨w.heap.size + 1, 2, none⟩ = false := xw1.frz (by simp <;> omega) qFz
  have z_b1 : w.heap.size < w1.heap.size := qB b10
  have z_b2 : w.heap.size + 1 < w1.heap.size := qB b20
  have s_w1 : w.heap.size ≤ w1.heap.size := Xw1.size
  clear xw1
  try simp only [World.size_alloc, World.size_drew] at i5
  try simp only [World.size_alloc, World.size_drew] at i5z
  obtain ⟨afv4, cfv4, rfl⟩ := i5.form
  go_wp2_with fail
  go_ret
  rw [show idxS n F T B false false = numL (n - 1) (-1) B by (have k0 := hc3; unfold idxS fromI toI; simp only [reduceIte, Bool.false_eq_true] <;> (repeat' split) <;> first | rfl | (exfalso; omega))]
  exact ⟨_, rfl, i5.lower (by omega), i5z.lower (by omega), Xw1⟩
 ·
  go_wp2_with fail
  refine (numbersOf_c 0 n B _ (by have := boundI_in (n := n) (x := F) (b := B) hn.1; have := boundI_in (n := n) (x := T) (b := B) hn.1; omega) (by have := boundI_in (n := n) (x := F) (b := B) hn.1; have := boundI_in (n := n) (x := T) (b := B) hn.1; omega) (by have := boundI_in (n := n) (x := F) (b := B) hn.1; have := boundI_in (n := n) (x := T) (b := B) hn.1; omega) hs.2.2.2).mono ?_
  rintro e w1 ⟨fv6, rfl, i7, i7z, xw1⟩
  have Lw1 : Ext w w1 := Ext.trans qXt xw1
  have Xw1 : Ext w w1 := Lw1
  have b10 : w1.cell? ⟨w.heap.size, 0, none⟩ = some (.int .i64 F) := xw1.cell qCl
  have b11 : w1.cell? ⟨w.heap.size, 1, none⟩ = some (.int .i64 T) := xw1.cell qCl
  have b12 : w1.cell? ⟨w.heap.size, 2, none⟩ = some (.int .i64 B) := xw1.cell qCl
  have b13 : w1.cell? ⟨w.heap.size, 3, none⟩ = some (.bool false) := xw1.cell qCl
  have b14 : w1.cell? ⟨w.heap.size, 4, none⟩ = some (.bool false) := xw1.cell qCl
  have b20 : w1.cell? ⟨w.heap.size + 1, 0, none⟩ = some (.int .i64 0) := xw1.cell qCl
  have b21 : w1.cell? ⟨w.heap.size + 1, 1, none⟩ = some (.int .i64 n) := xw1.cell qCl
  have b22 : w1.cell? ⟨w.heap.size + 1, 2, none⟩ = some (.int .i64 B) := xw1.cell qCl
  have f_b20 : w1.frozen? ⟨w.heap.size + 1, 0, none⟩ = false := xw1.frz (by simp <;> omega) qFz
  have f_b21 : w1.frozen? ⟨w.heap.size + 1, 1, none⟩ = false := xw1.frz (by simp <;> omega) qFz
  have f_b22 : w1.frozen? ⟨w.heap.size + 1, 2, none⟩ = false := xw1.frz (by simp <;> omega) qFz
  have z_b1 : w.heap.size < w1.heap.size := qB b10
  have z_b2 : w.heap.size + 1 < w1.heap.size := qB b20
  have s_w1 : w.heap.size ≤ w1.heap.size := Xw1.size
  clear xw1
  try simp only [World.size_alloc, World.size_drew] at i7
  try simp only [World.size_alloc, World.size_drew] at i7z
  obtain ⟨afv6, cfv6, rfl⟩ := i7.form
  go_wp2_with fail
  go_ret
  rw [show idxS n F T B false false = numL 0 n B by (have k0 := hc3; unfold idxS fromI toI; simp only [reduceIte, Bool.false_eq_true] <;> (repeat' split) <;> first | rfl | (exfalso; omega))]
  exact ⟨_, rfl, i7.lower (by omega), i7z.lower (by omega), Xw1⟩

set_option maxHeartbeats 1600000 in
theorem indicesOf_c (n F T B : Int) (hf ht : Bool) (w : World) (hn : 0 ≤ n ∧ n ≤ 200) (hsl : sliceB F T B hf ht = true) :
  Calls Try.prog 178 #[.int .i64 n, .agg #[.int .i64 F, .int .i64 T, .int .i64 B, .bool hf, .bool ht]] w (PInts w (idxS n F T B hf ht)) := by
 have hs := sliceB_in hsl
 cases hf <;> cases ht
 ·
  exact indicesOf_ff n F T B w hn hs
 ·
  exact indicesOf_ft n F T B w hn hs
 ·
  exact indicesOf_tf n F T B w hn hs
 ·
  exact indicesOf_tt n F T B w hn hs


end Go.Proofs.Ytfbbnbpobojboaa

/- Walks: slices.Delete of one number of a row of one's own. -/
namespace Go.Proofs.Ytfbbnbpobojboaa
open Go.RowKit
set_option linter.unusedVariables false
set_option maxRecDepth 100000

def delL (xs : List Int) (i : Nat) : List Int := xs.take i ++ xs.drop (i + 1)
theorem delL_len (xs : List Int) (i : Nat) (h : i < xs.length) : (delL xs i).length = xs.length - 1 := by unfold delL; simp; omega
theorem Ints.chgN {w w' : World} {lo l h g o n c : Nat} {xs : List Int} (I : Ints w lo (.slice (some ⟨g, o, none⟩) n c) xs) (k : Chg l h w w') (hg : g < l ∨ h ≤ g) : Ints w' lo (.slice (some ⟨g, o, none⟩) n c) xs := by
  obtain ⟨a', c', e, h1, h2, h3, h4⟩ := I
  cases e
  refine ⟨_, _, rfl, h1, h2, h3, fun i hi => ?_⟩
  obtain ⟨b, of, ha, hb, hc, hf⟩ := h4 i hi
  cases ha
  exact ⟨_, _, rfl, hb, k.cell hg hc, k.frzO hg (qB hc) hf⟩
/-- a call hands back a view and whether there is one -/
def PVWB (w : World) (b : Int) (s t : List Int) (ok : Bool) (e : Ending) (w' : World) : Prop := ∃ u v, e = .returned (.tuple #[.agg #[.int .i64 b, u, v], .bool ok]) ∧ Ints w' w.heap.size u s ∧ Ints w' w.heap.size v t ∧ Ext w w'
theorem PVWB.no {w w' : World} (h : Ext w w') : PVWB w 0 [] [] false (.returned (.tuple #[.agg #[.int .i64 0, .slice none 0 0, .slice none 0 0], .bool false])) w' :=
  ⟨_, _, rfl, Ints.nil _ _ _ _ (by simp) (fun _ => rfl), Ints.nil _ _ _ _ (by simp) (fun _ => rfl), h⟩
end Go.Proofs.Ytfbbnbpobojboaa

/- Walks: views without a dimension, of the program. -/
namespace Go.Proofs.Ytfbbnbpobojboaa
open Go.RowKit
set_option linter.unusedVariables false
set_option maxRecDepth 100000

end Go.Proofs.Ytfbbnbpobojboaa

/- Plain laws: views with their dimensions in another order. -/
namespace Go.Proofs.Ytfbbnbpobojboaa
open Go.RowKit
set_option linter.unusedVariables false
set_option maxRecDepth 100000

end Go.Proofs.Ytfbbnbpobojboaa

/- Plain laws: views without a dimension. -/
namespace Go.Proofs.Ytfbbnbpobojboaa
open Go.RowKit
set_option linter.unusedVariables false
set_option maxRecDepth 100000

end Go.Proofs.Ytfbbnbpobojboaa

/- Walks: PickDim of the program. -/
namespace Go.Proofs.Ytfbbnbpobojboaa
open Go.RowKit
set_option linter.unusedVariables false
set_option maxRecDepth 100000


theorem dim_in {b : Int} {s t : List Int} {d : Int} (h : dimB b s t d = true) : viewB b s t = true ∧ 0 ≤ d ∧ d < s.length := by
  unfold dimB inB at h
  simp only [Bool.and_eq_true, decide_eq_true_eq] at h
  exact ⟨h.1, by omega, by omega⟩
end Go.Proofs.Ytfbbnbpobojboaa

/- Plain laws: what a slice takes of a dimension, as the program reckons it. -/
namespace Go.Proofs.Ytfbbnbpobojboaa
open Go.RowKit
set_option linter.unusedVariables false
set_option maxRecDepth 100000

theorem numL_one {a b s : Int} (hn : cntL a b s = 1) : numL a b s = [a] := by unfold numL; rw [hn]; simp
theorem slice_first {a b q : Int} {L : List Int} (hq : q ≠ 0) (hL : numL a b q = L) : (L.length ≠ 0 → (normL L).1 = L.getD 0 0) ∧ (2 ≤ L.length → (normL L).2.2 = L.getD 1 0 - L.getD 0 0) := by
  subst hL
  have h := norm_two (a := a) (b := b) hq
  rw [numL_len] at h ⊢
  refine ⟨fun hn => ?_, fun hn => ?_⟩
  · rw [h.1 hn]
    match hc : cntL a b q with
    | 0 => exact absurd hc hn
    | 1 => rw [numL_one hc]; rfl
    | m + 2 => rw [numL_two hc]; rfl
  · rw [h.2.2 hn]
    match hc : cntL a b q with
    | 0 => omega
    | 1 => omega
    | m + 2 => rw [numL_two hc]; simp; omega
theorem count_zero_mem {xs : List Int} (hs : Small xs) (h : (0 : Int) ∈ xs) : countL xs = 0 := by
  have hc := hs.count
  by_cases h0 : countL xs = 0
  · exact h0
  · have := hc.2.2.2 (by omega) 0 h; omega
/-- base and strides that the program reckons, ahead of 'cleared' -/
theorem cut_prog {b : Int} {s t : List Int} {d : Nat} {a e q x : Int} {L : List Int} (hs : Small s) (hd : d < s.length) (hq : q ≠ 0) (hL : numL a e q = L) (hx : t.getD d 0 = x) :
    (∀ B : Int, (L.length = 0 ∨ B = b + x * L.getD 0 0) → cutB b s t d L = tidyB B (s.set d L.length)) ∧
    (∀ X : Int, (if 2 ≤ L.length then X = x * (L.getD 1 0 - L.getD 0 0) else X = 0) → cutT s t d L = tidyT (s.set d L.length) (t.set d X)) := by
  obtain ⟨h1, h2⟩ := slice_first hq hL
  have hz : L.length = 0 → countL (s.set d L.length) = 0 := fun h => by
    rw [h]
    exact count_zero_mem (small_set hs d (by omega)) (List.mem_iff_getElem.2 ⟨d, by simpa using hd, by simp⟩)
  refine ⟨fun B hB => ?_, fun X hX => ?_⟩
  · unfold cutB tidyB
    split
    · rfl
    · rename_i hc
      by_cases hl : L.length = 0
      · exact absurd (hz hl) hc
      · rcases hB with hB | hB
        · exact absurd hB hl
        · rw [hx, hB, h1 hl, Int.mul_comm]
  · unfold cutT
    congr 2
    by_cases hl : 2 ≤ L.length
    · rw [if_neg (by omega), hx, h2 hl]; rw [if_pos hl] at hX; rw [hX, Int.mul_comm]
    · rw [if_pos (by omega)]; rw [if_neg hl] at hX; exact hX.symm
end Go.Proofs.Ytfbbnbpobojboaa

/- Walks: sliceDim of the program. -/
namespace Go.Proofs.Ytfbbnbpobojboaa
open Go.RowKit
set_option linter.unusedVariables false
set_option maxRecDepth 100000


theorem mul_bd2s {x y : Int} (h1 : -60 ≤ x) (h2 : x ≤ 60) (h3 : -60 ≤ y) (h4 : y ≤ 60) : -3600 ≤ x * y ∧ x * y ≤ 3600 := by
  by_cases h : 0 ≤ y
  · have := mul_bd (x := y) (t := x) h h4 (show (0 : Int) ≤ 60 by omega) h1 h2
    rw [Int.mul_comm y x] at this; omega
  · have := mul_bd (x := -y) (t := x) (by omega) (by omega) (show (0 : Int) ≤ 60 by omega) h1 h2
    rw [Int.neg_mul, Int.mul_comm y x] at this; omega

end Go.Proofs.Ytfbbnbpobojboaa

/- Walks: SliceDim of the program. -/
namespace Go.Proofs.Ytfbbnbpobojboaa
open Go.RowKit
set_option linter.unusedVariables false
set_option maxRecDepth 100000


theorem slice_no0 {b : Int} {s t : List Int} {d F T B : Int} {hf ht : Bool} (h : dimB b s t d = false) : sliceV b s t d F T B hf ht = noV := by
  unfold dimB at h
  unfold sliceV
  rw [if_neg]
  intro h2
  simp only [Bool.and_eq_true] at h2
  rw [h2.1, h2.2.1] at h; cases h
theorem slice_no1 {b : Int} {s t : List Int} {d F T B : Int} {hf ht : Bool} (h : sliceB F T B hf ht = false) : sliceV b s t d F T B hf ht = noV := by
  unfold sliceV; rw [h, Bool.and_false, Bool.and_false]; rfl
theorem slice_yes {b : Int} {s t : List Int} {D : Nat} {F T B : Int} {hf ht : Bool} (h : dimB b s t (D : Int) = true) (h2 : sliceB F T B hf ht = true) :
    sliceV b s t (D : Int) F T B hf ht = (cutB b s t D (idxS (s.getD D 0) F T B hf ht), cutS s D (idxS (s.getD D 0) F T B hf ht), cutT s t D (idxS (s.getD D 0) F T B hf ht), true) := by
  unfold dimB at h
  rw [Bool.and_eq_true] at h
  unfold sliceV
  rw [if_pos (by rw [h.1, h.2, h2]; rfl), Int.toNat_natCast]

end Go.Proofs.Ytfbbnbpobojboaa

/- Walks: SliceDim of the program, in rows of its own. -/
namespace Go.Proofs.Ytfbbnbpobojboaa
open Go.RowKit
set_option linter.unusedVariables false
set_option maxRecDepth 100000

set_option maxHeartbeats 6400000 in
theorem sliceDim_s (b1 : Int) (u1 v1 : Value) (s1 t1 : List Int) (D : Nat) (F T B : Int) (hf ht : Bool) (w : World) (l1 m1 : Nat) (h1 : Ints w l1 u1 s1) (k1 : Ints w m1 v1 t1) (hvv : viewB b1 s1 t1 = true) (hDN : D < s1.length) (hsl : sliceB F T B hf ht = true) :
  Calls Try.prog 152 #[.agg #[.int .i64 b1, u1, v1], .int .i64 (D : Int), .agg #[.int .i64 F, .int .i64 T, .int .i64 B, .bool hf, .bool ht]] w (PView w (cutB b1 s1 t1 D (idxS (s1.getD D 0) F T B hf ht)) (cutS s1 D (idxS (s1.getD D 0) F T B hf ht)) (cutT s1 t1 D (idxS (s1.getD D 0) F T B hf ht))) := by
 obtain ⟨p0, c0, rfl⟩ := h1.form
 obtain ⟨p1, c1, rfl⟩ := k1.form
 obtain ⟨-, hts, -, ht60, -⟩ := viewB_in hvv
 have hsm := view_small hvv
 have hs60 := Lib.hid hsm.2
 have hs4 := hsm.1
 have hDT : D < t1.length := by omega
 have ht4 : t1.length ≤ 4 := by omega
 have hb60 := (viewB_in hvv).2.2.1
 have hne1 : s1 ≠ [] := fun h => by rw [h] at hDN; simp at hDN
 have hne2 : t1 ≠ [] := fun h => by rw [h] at hDT; simp at hDT
 have hx1 : Hid (t1.getD D 0 = t1.getD D 0) := Lib.hid rfl
 replace hne1 := Lib.hid hne1
 replace hne2 := Lib.hid hne2
 replace hsm := Lib.hid hsm
 replace hts := Lib.hid hts
 replace ht60 := Lib.hid ht60
 replace hvv := Lib.hid hvv
 replace hsl := Lib.hid hsl
 go_enter Try.func152, Try.ntmps152
 go_wp2_with fail
 generalize hW1 : ((w.alloc (.cells #[.int .i64 b1, .slice p0 s1.length c0, .slice p1 t1.length c1] 36)).alloc (.cells #[.int .i64 F, .int .i64 T, .int .i64 B, .bool hf, .bool ht] 68)).alloc (.cells #[.int .i64 0, .slice none 0 0, .slice none 0 0] 36) = w1 at *
 have Lw1 : Ext w w1 := by subst hW1; exact qXt
 have Xw1 : Ext w w1 := by subst hW1; exact Lw1
 have b10 : w1.cell? ⟨w.heap.size, 0, none⟩ = some (.int .i64 b1) := by subst hW1; exact qCl
 have b11 : w1.cell? ⟨w.heap.size, 1, none⟩ = some (.slice p0 s1.length c0) := by subst hW1; exact qCl
 have b12 : w1.cell? ⟨w.heap.size, 2, none⟩ = some (.slice p1 t1.length c1) := by subst hW1; exact qCl
 have b20 : w1.cell? ⟨w.heap.size + 1, 0, none⟩ = some (.int .i64 F) := by subst hW1; exact qCl
 have b21 : w1.cell? ⟨w.heap.size + 1, 1, none⟩ = some (.int .i64 T) := by subst hW1; exact qCl
 have b22 : w1.cell? ⟨w.heap.size + 1, 2, none⟩ = some (.int .i64 B) := by subst hW1; exact qCl
 have b23 : w1.cell? ⟨w.heap.size + 1, 3, none⟩ = some (.bool hf) := by subst hW1; exact qCl
 have b24 : w1.cell? ⟨w.heap.size + 1, 4, none⟩ = some (.bool ht) := by subst hW1; exact qCl
 have b30 : w1.cell? ⟨w.heap.size + 1 + 1, 0, none⟩ = some (.int .i64 0) := by subst hW1; exact qCl
 have b31 : w1.cell? ⟨w.heap.size + 1 + 1, 1, none⟩ = some (.slice none 0 0) := by subst hW1; exact qCl
 have b32 : w1.cell? ⟨w.heap.size + 1 + 1, 2, none⟩ = some (.slice none 0 0) := by subst hW1; exact qCl
 have f_b30 : w1.frozen? ⟨w.heap.size + 1 + 1, 0, none⟩ = false := by subst hW1; exact qFz
 have f_b31 : w1.frozen? ⟨w.heap.size + 1 + 1, 1, none⟩ = false := by subst hW1; exact qFz
 have f_b32 : w1.frozen? ⟨w.heap.size + 1 + 1, 2, none⟩ = false := by subst hW1; exact qFz
 have z_b1 : w.heap.size < w1.heap.size := qB b10
 have z_b2 : w.heap.size + 1 < w1.heap.size := qB b20
 have z_b3 : w.heap.size + 1 + 1 < w1.heap.size := qB b30
 have s_w1 : w.heap.size ≤ w1.heap.size := Xw1.size
 clear hW1
 have hN_e6 : D < s1.length := (by first | exact hDN | (simp only [List.length_set]; exact hDN))
 have hI_e6 : (D : Int) < (s1.length : Int) := by omega
 obtain ⟨bl4, ol5, rfl, e60⟩ := h1.at D (by first | exact hDN | (simp only [List.length_set]; exact hDN))
 have y_e6 : bl4 < w.heap.size := qB e60
 replace e60 := Xw1.cell e60
 obtain ⟨v7, hv7⟩ : ∃ v, s1.getD D 0 = v := ⟨_, rfl⟩
 rw [hv7] at e60
 replace hv7 := Lib.hid hv7
 have z_e6 : bl4 < w1.heap.size := qB e60
 have h60v7 := hs60.out _ (getD_mem hDN)
 obtain ⟨hcv, hcl⟩ := cut_view (a := fromI v7 F B hf) (e := toI v7 T B ht) hvv.out hDN (sliceB_in hsl.out).2.2.2 (by rw [hv7.out]; exact idxS_in (by rw [hv7.out] at h60v7; omega) (sliceB_in hsl.out).2.2.2)
 have hLin := idxS_in (n := v7) (F := F) (T := T) (hf := hf) (ht := ht) (by rw [hv7.out] at h60v7; omega) (sliceB_in hsl.out).2.2.2
 rw [hv7.out] at h60v7
 obtain ⟨L, hL⟩ : ∃ L, idxS v7 F T B hf ht = L := ⟨_, rfl⟩
 rw [show numL (fromI v7 F B hf) (toI v7 T B ht) B = L from hL] at hcl
 rw [hL] at hLin
 clear hcv
 replace hL := Lib.hid hL
 replace hLin := Lib.hid hLin
 refine wp_region_tail (S := fun w' => w'.cell? ⟨w.heap.size, 1, none⟩ = some (.slice (some ⟨bl4, ol5, none⟩) s1.length c0) ∧ w'.cell? ⟨w.heap.size + 1, 0, none⟩ = some (.int .i64 F) ∧ w'.cell? ⟨w.heap.size + 1, 1, none⟩ = some (.int .i64 T) ∧ w'.cell? ⟨w.heap.size + 1, 2, none⟩ = some (.int .i64 B) ∧ w'.cell? ⟨w.heap.size + 1, 3, none⟩ = some (.bool hf) ∧ w'.cell? ⟨w.heap.size + 1, 4, none⟩ = some (.bool ht) ∧ w'.cell? ⟨bl4, ol5 + D, none⟩ = some (.int .i64 v7)) (fun i => decide (8 ≤ i)) qKr ⟨b11, b20, b21, b22, b23, b24, e60⟩ (fun hHeld => ?_)
 refine qTk (v := ?_) 0 rfl (.inl ⟨by rfl, ?_⟩) ?_
 rotate_left
 ·
  (intro w hSw; (try dsimp only at hSw); go_simp; try with_reducible rfl)
 try simp only [Act.put, qa, qb, qc, qD, qE, qF]
 refine qTk (v := ?_) 1 rfl (.inl ⟨by rfl, ?_⟩) ?_
 rotate_left
 ·
  (intro w hSw; (try dsimp only at hSw); go_simp; try with_reducible rfl)
 try simp only [Act.put, qa, qb, qc, qD, qE, qF]
 refine qTk (v := ?_) 2 rfl (.inl ⟨by rfl, ?_⟩) ?_
 rotate_left
 ·
  (intro w hSw; (try dsimp only at hSw); go_simp; try with_reducible rfl)
 try simp only [Act.put, qa, qb, qc, qD, qE, qF]
 refine qTk (v := ?_) 3 rfl (.inl ⟨by rfl, ?_⟩) ?_
 rotate_left
 ·
  (intro w hSw; (try dsimp only at hSw); go_simp; try with_reducible rfl)
 try simp only [Act.put, qa, qb, qc, qD, qE, qF]
 refine qTk (v := ?_) 4 rfl (.inl ⟨by rfl, ?_⟩) ?_
 rotate_left
 ·
  (intro w hSw; (try dsimp only at hSw); go_simp; try with_reducible rfl)
 try simp only [Act.put, qa, qb, qc, qD, qE, qF]
 refine qTk (v := ?_) 5 rfl (.inl ⟨by rfl, ?_⟩) ?_
 rotate_left
 ·
  (intro w hSw; (try dsimp only at hSw); go_simp; try with_reducible rfl)
 try simp only [Act.put, qa, qb, qc, qD, qE, qF]
 refine wpTail_one (i := 6) qKr rfl rfl (fun K hK => ?_)
 try simp only [Act.put, qa, qb, qc, qD, qE, qF]
 go_simp
 refine (pi_eq hL.out (indicesOf_c v7 F T B hf ht _ (by omega) hsl.out)).mono ?_
 rintro e w2 ⟨fv11, rfl, i12, -, xw2⟩
 have Lw2 : Ext w1 w2 := Ext.trans qXt xw2
 have Xw2 : Ext w w2 := Xw1.trans Lw2
 replace b10 := Lw2.cell b10
 replace b11 := Lw2.cell b11
 replace b12 := Lw2.cell b12
 replace b20 := Lw2.cell b20
 replace b21 := Lw2.cell b21
 replace b22 := Lw2.cell b22
 replace b23 := Lw2.cell b23
 replace b24 := Lw2.cell b24
 replace b30 := Lw2.cell b30
 replace b31 := Lw2.cell b31
 replace b32 := Lw2.cell b32
 replace f_b30 := Lw2.frz z_b3 f_b30
 replace f_b31 := Lw2.frz z_b3 f_b31
 replace f_b32 := Lw2.frz z_b3 f_b32
 replace e60 := Lw2.cell e60
 have z_b1 : w.heap.size < w2.heap.size := qB b10
 have z_b2 : w.heap.size + 1 < w2.heap.size := qB b20
 have z_b3 : w.heap.size + 1 + 1 < w2.heap.size := qB b30
 have z_e6 : bl4 < w2.heap.size := qB e60
 have s_w2 : w.heap.size ≤ w2.heap.size := Xw2.size
 clear xw2
 try simp only [World.size_alloc, World.size_drew] at i12
 obtain ⟨afv11, cfv11, rfl⟩ := i12.form
 refine hK.out _ _ ⟨b11, b20, b21, b22, b23, b24, e60⟩ (fun hHeld => ?_)
 clear hK K
 try simp only [Act.put, qa, qb, qc, qD, qE, qF]
 refine qTk (v := ?_) 7 rfl (.inl ⟨by rfl, ?_⟩) ?_
 rotate_left
 ·
  (intro w hSw; (try dsimp only at hSw); go_simp; try with_reducible rfl)
 try simp only [Act.put, qa, qb, qc, qD, qE, qF]
 refine wpTail_done qKr ?_ _
 clear hHeld 
 go_wp2_with fail
 have Q13_b10 := Lib.hid b10
 have Q13_b11 := Lib.hid b11
 have Q13_b12 := Lib.hid b12
 have Q13_zb1 := z_b1
 have Q13_b20 := Lib.hid b20
 have Q13_b21 := Lib.hid b21
 have Q13_b22 := Lib.hid b22
 have Q13_b23 := Lib.hid b23
 have Q13_b24 := Lib.hid b24
 have Q13_zb2 := z_b2
 have Q13_b30 := Lib.hid b30
 have Q13_f_b30 := Lib.hid f_b30
 have Q13_b31 := Lib.hid b31
 have Q13_f_b31 := Lib.hid f_b31
 have Q13_b32 := Lib.hid b32
 have Q13_f_b32 := Lib.hid f_b32
 have Q13_zb3 := z_b3
 have Q13_e60 := Lib.hid e60
 have Q13_ze6 := z_e6
 have Q13_i12 := Lib.hid i12
 have BL14 : Ext w2 w2 := Ext.refl _
 refine (copyView_c b1 (.slice (some ⟨bl4, ol5, none⟩) s1.length c0) (.slice p1 t1.length c1) s1 t1 _ _ _ (h1.ext (Xw2.trans qXt)) (k1.ext (Xw2.trans qXt))).mono ?_
 rintro e w3 ⟨fv15u, fv15v, rfl, i16u, i16v, i16uz, i16vz, i16s, xw3⟩
 have Lw3 : Ext w2 w3 := Ext.trans qXt xw3
 have Xw3 : Ext w w3 := Xw2.trans Lw3
 replace b10 := Lw3.cell b10
 replace b11 := Lw3.cell b11
 replace b12 := Lw3.cell b12
 replace b20 := Lw3.cell b20
 replace b21 := Lw3.cell b21
 replace b22 := Lw3.cell b22
 replace b23 := Lw3.cell b23
 replace b24 := Lw3.cell b24
 replace b30 := Lw3.cell b30
 replace b31 := Lw3.cell b31
 replace b32 := Lw3.cell b32
 replace f_b30 := Lw3.frz z_b3 f_b30
 replace f_b31 := Lw3.frz z_b3 f_b31
 replace f_b32 := Lw3.frz z_b3 f_b32
 replace e60 := Lw3.cell e60
 have z_b1 : w.heap.size < w3.heap.size := qB b10
 have z_b2 : w.heap.size + 1 < w3.heap.size := qB b20
 have z_b3 : w.heap.size + 1 + 1 < w3.heap.size := qB b30
 have z_e6 : bl4 < w3.heap.size := qB e60
 replace i12 := i12.ext Lw3
 have s_w3 : w.heap.size ≤ w3.heap.size := Xw3.size
 have BL14_w3 : Ext w2 w3 := BL14.trans Lw3
 clear xw3
 obtain ⟨afv15u, cfv15u, rfl⟩ := i16u.form
 obtain ⟨afv15v, cfv15v, rfl⟩ := i16v.form
 have O17 := i16uz.ofNe hne1.out
 obtain ⟨gr19, rr21, hvgr19, Ggr19, Ggr19'⟩ := O17.row hne1.out
 cases hvgr19
 have O18 := i16vz.ofNe hne2.out
 obtain ⟨gr20, rr22, hvgr20, Ggr20, Ggr20'⟩ := O18.row hne2.out
 cases hvgr20
 have hggr19 : gr19 ≠ gr20 := fun h => i16s hne1.out hne2.out (by rw [h]; rfl)
 clear i16u i16uz i16v i16vz i16s
 have Q23_b10 := Lib.hid b10
 have Q23_b11 := Lib.hid b11
 have Q23_b12 := Lib.hid b12
 have Q23_zb1 := z_b1
 have Q23_b20 := Lib.hid b20
 have Q23_b21 := Lib.hid b21
 have Q23_b22 := Lib.hid b22
 have Q23_b23 := Lib.hid b23
 have Q23_b24 := Lib.hid b24
 have Q23_zb2 := z_b2
 have Q23_b30 := Lib.hid b30
 have Q23_f_b30 := Lib.hid f_b30
 have Q23_b31 := Lib.hid b31
 have Q23_f_b31 := Lib.hid f_b31
 have Q23_b32 := Lib.hid b32
 have Q23_f_b32 := Lib.hid f_b32
 have Q23_zb3 := z_b3
 have Q23_e60 := Lib.hid e60
 have Q23_ze6 := z_e6
 have Q23_i12 := Lib.hid i12
 have Q23_O17 := Lib.hid O17
 have Q23_O18 := Lib.hid O18
 have BL24 : Ext w3 w3 := Ext.refl _
 go_upto_region 3 with fail
 generalize hW2 : w3.alloc (.cells #[.int .i64 b1, .slice (some ⟨gr19, 0, none⟩) s1.length cfv15u, .slice (some ⟨gr20, 0, none⟩) t1.length cfv15v] 36) = w4 at *
 have Lw4 : Ext w3 w4 := by subst hW2; exact qXt
 have Xw4 : Ext w w4 := Xw3.trans Lw4
 replace b10 := Lw4.cell b10
 replace b11 := Lw4.cell b11
 replace b12 := Lw4.cell b12
 replace b20 := Lw4.cell b20
 replace b21 := Lw4.cell b21
 replace b22 := Lw4.cell b22
 replace b23 := Lw4.cell b23
 replace b24 := Lw4.cell b24
 replace b30 := Lw4.cell b30
 replace b31 := Lw4.cell b31
 replace b32 := Lw4.cell b32
 replace f_b30 := Lw4.frz z_b3 f_b30
 replace f_b31 := Lw4.frz z_b3 f_b31
 replace f_b32 := Lw4.frz z_b3 f_b32
 replace e60 := Lw4.cell e60
 have b250 : w4.cell? ⟨w3.heap.size, 0, none⟩ = some (.int .i64 b1) := by subst hW2; exact qCl
 have b251 : w4.cell? ⟨w3.heap.size, 1, none⟩ = some (.slice (some ⟨gr19, 0, none⟩) s1.length cfv15u) := by subst hW2; exact qCl
 have b252 : w4.cell? ⟨w3.heap.size, 2, none⟩ = some (.slice (some ⟨gr20, 0, none⟩) t1.length cfv15v) := by subst hW2; exact qCl
 have f_b250 : w4.frozen? ⟨w3.heap.size, 0, none⟩ = false := by subst hW2; exact qFz
 have f_b251 : w4.frozen? ⟨w3.heap.size, 1, none⟩ = false := by subst hW2; exact qFz
 have f_b252 : w4.frozen? ⟨w3.heap.size, 2, none⟩ = false := by subst hW2; exact qFz
 have z_b1 : w.heap.size < w4.heap.size := qB b10
 have z_b2 : w.heap.size + 1 < w4.heap.size := qB b20
 have z_b3 : w.heap.size + 1 + 1 < w4.heap.size := qB b30
 have z_e6 : bl4 < w4.heap.size := qB e60
 have z_b25 : w3.heap.size < w4.heap.size := qB b250
 replace i12 := i12.ext Lw4
 replace O17 := O17.ext Lw4
 replace O18 := O18.ext Lw4
 have s_w4 : w.heap.size ≤ w4.heap.size := Xw4.size
 have BL14_w4 : Ext w2 w4 := BL14_w3.trans Lw4
 have BL24_w4 : Ext w3 w4 := BL24.trans Lw4
 clear hW2
 have A26 := O17.cell D (by first | exact hDN | (simp only [List.length_set]; exact hDN))
 obtain ⟨A26a, A26b⟩ := A26
 go_upto_region 4 with fail
 clear e60 z_e6
 generalize hW3 : (w4.setCell ⟨gr19, D, none⟩ (.int .i64 (L.length : Int))) = w5 at *
 have Kw5 : Chg (gr19) (gr19 + 1) w4 w5 := by subst hW3; exact qCh
 have Xw5 : Ext w w5 := by subst hW3; exact qXt
 have BL14_w5 : Ext w2 w5 := by subst hW3; exact qXt
 replace b10 := BL14_w5.cell Q13_b10.out
 replace b11 := BL14_w5.cell Q13_b11.out
 replace b12 := BL14_w5.cell Q13_b12.out
 replace b20 := BL14_w5.cell Q13_b20.out
 replace b21 := BL14_w5.cell Q13_b21.out
 replace b22 := BL14_w5.cell Q13_b22.out
 replace b23 := BL14_w5.cell Q13_b23.out
 replace b24 := BL14_w5.cell Q13_b24.out
 replace b30 := BL14_w5.cell Q13_b30.out
 replace f_b30 := BL14_w5.frz Q13_zb3 Q13_f_b30.out
 replace b31 := BL14_w5.cell Q13_b31.out
 replace f_b31 := BL14_w5.frz Q13_zb3 Q13_f_b31.out
 replace b32 := BL14_w5.cell Q13_b32.out
 replace f_b32 := BL14_w5.frz Q13_zb3 Q13_f_b32.out
 replace b250 := Kw5.cell (by omega) b250
 replace f_b250 := Kw5.frzO (by omega) z_b25 f_b250
 replace b251 := Kw5.cell (by omega) b251
 replace f_b251 := Kw5.frzO (by omega) z_b25 f_b251
 replace b252 := Kw5.cell (by omega) b252
 replace f_b252 := Kw5.frzO (by omega) z_b25 f_b252
 replace i12 := (Q13_i12.out).ext BL14_w5
 have n_O17 := O17.set D ((L.length : Int)) (by first | omega | (simp; omega) | (rw [putUp_len]; simp; omega) | (rw [addUp_len]; omega))
 rw [hW3] at n_O17
 replace O17 := n_O17
 clear n_O17
 replace O18 := O18.chgN Kw5 (by omega)
 clear Kw5
 have z_b1 : w.heap.size < w5.heap.size := qB b10
 have z_b2 : w.heap.size + 1 < w5.heap.size := qB b20
 have z_b3 : w.heap.size + 1 + 1 < w5.heap.size := qB b30
 have z_b25 : w3.heap.size < w5.heap.size := qB b250
 have s_w5 : w.heap.size ≤ w5.heap.size := Xw5.size
 clear hW3
 clear A26a A26b
 have A27 := O18.cell D (by first | exact hDT | (simp only [List.length_set]; exact hDT))
 obtain ⟨A27a, A27b⟩ := A27
 by_cases hc28 : (0 : Int) < (L.length : Int)
 ·
  go_wp2_with fail
  generalize hW4 : (w5.setCell ⟨gr20, D, none⟩ (.int .i64 0)) = w6 at *
  have Kw6 : Chg (gr20) (gr20 + 1) w5 w6 := by subst hW4; exact qCh
  have Xw6 : Ext w w6 := by subst hW4; exact qXt
  have BL14_w6 : Ext w2 w6 := by subst hW4; exact qXt
  replace b10 := BL14_w6.cell Q13_b10.out
  replace b11 := BL14_w6.cell Q13_b11.out
  replace b12 := BL14_w6.cell Q13_b12.out
  replace b20 := BL14_w6.cell Q13_b20.out
  replace b21 := BL14_w6.cell Q13_b21.out
  replace b22 := BL14_w6.cell Q13_b22.out
  replace b23 := BL14_w6.cell Q13_b23.out
  replace b24 := BL14_w6.cell Q13_b24.out
  replace b30 := BL14_w6.cell Q13_b30.out
  replace f_b30 := BL14_w6.frz Q13_zb3 Q13_f_b30.out
  replace b31 := BL14_w6.cell Q13_b31.out
  replace f_b31 := BL14_w6.frz Q13_zb3 Q13_f_b31.out
  replace b32 := BL14_w6.cell Q13_b32.out
  replace f_b32 := BL14_w6.frz Q13_zb3 Q13_f_b32.out
  replace b250 := Kw6.cell (by omega) b250
  replace f_b250 := Kw6.frzO (by omega) z_b25 f_b250
  replace b251 := Kw6.cell (by omega) b251
  replace f_b251 := Kw6.frzO (by omega) z_b25 f_b251
  replace b252 := Kw6.cell (by omega) b252
  replace f_b252 := Kw6.frzO (by omega) z_b25 f_b252
  replace i12 := (Q13_i12.out).ext BL14_w6
  replace O17 := O17.chgN Kw6 (by omega)
  have n_O18 := O18.set D (0) (by first | omega | (simp; omega) | (rw [putUp_len]; simp; omega) | (rw [addUp_len]; omega))
  rw [hW4] at n_O18
  replace O18 := n_O18
  clear n_O18
  clear Kw6
  have z_b1 : w.heap.size < w6.heap.size := qB b10
  have z_b2 : w.heap.size + 1 < w6.heap.size := qB b20
  have z_b3 : w.heap.size + 1 + 1 < w6.heap.size := qB b30
  have z_b25 : w3.heap.size < w6.heap.size := qB b250
  have s_w6 : w.heap.size ≤ w6.heap.size := Xw6.size
  clear hW4
  clear A27a A27b
  have hN_e31 : D < t1.length := (by first | exact hDT | (simp only [List.length_set]; exact hDT))
  have hI_e31 : (D : Int) < (t1.length : Int) := by omega
  obtain ⟨bl29, ol30, rfl, e310⟩ := k1.at D (by first | exact hDT | (simp only [List.length_set]; exact hDT))
  have y_e31 : bl29 < w.heap.size := qB e310
  replace e310 := Xw6.cell e310
  obtain ⟨v32, hv32⟩ : ∃ v, t1.getD D 0 = v := ⟨_, rfl⟩
  rw [hv32] at e310
  replace hv32 := Lib.hid hv32
  have z_e31 : bl29 < w6.heap.size := qB e310
  have h60v32 := ht60.out _ (getD_mem hDT)
  rw [hv32.out] at h60v32
  have hx1 := hv32
  have hI_e35 : (0 : Int) < (L.length : Int) := by have hB7 : 0 < L.length := (by omega); omega
  obtain ⟨bl33, ol34, rfl, e350⟩ := i12.at 0 (by omega)
  rw [Nat.add_zero] at e350
  obtain ⟨v36, hv36⟩ : ∃ v, L.getD 0 0 = v := ⟨_, rfl⟩
  rw [hv36] at e350
  replace hv36 := Lib.hid hv36
  have y_e35 : bl33 < w6.heap.size := qB e350
  have z_e35 := y_e35
  have h60v36 := hLin.out _ (getD_mem (show 0 < L.length by omega))
  rw [hv36.out] at h60v36
  have hL0 := hv36
  have hmuv36 := mul_bd (x := v36) (t := v32) (by omega) (by omega) (show (0 : Int) ≤ 60 by omega) h60v32.1 h60v32.2
  rw [Int.mul_comm v36 v32] at hmuv36
  refine wp_region_tail (S := fun w' => w'.cell? ⟨w.heap.size, 2, none⟩ = some (.slice (some ⟨bl29, ol30, none⟩) t1.length c1) ∧ w'.cell? ⟨w3.heap.size, 0, none⟩ = some (.int .i64 b1) ∧ w'.cell? ⟨bl29, ol30 + D, none⟩ = some (.int .i64 v32) ∧ w'.cell? ⟨bl33, ol34, none⟩ = some (.int .i64 v36)) (fun i => decide (13 ≤ i)) qKr ⟨b12, b250, e310, e350⟩ (fun hHeld => ?_)
  refine qTk (v := ?_) 0 rfl (.inl ⟨by rfl, ?_⟩) ?_
  rotate_left
  ·
   (intro w hSw; (try dsimp only at hSw); go_simp; try with_reducible rfl)
  try simp only [Act.put, qa, qb, qc, qD, qE, qF]
  refine qTk (v := ?_) 1 rfl (.inl ⟨by rfl, ?_⟩) ?_
  rotate_left
  ·
   (intro w hSw; (try dsimp only at hSw); go_simp; try with_reducible rfl)
  try simp only [Act.put, qa, qb, qc, qD, qE, qF]
  refine qTk (v := ?_) 2 rfl (.inl ⟨by rfl, ?_⟩) ?_
  rotate_left
  ·
   (intro w hSw; (try dsimp only at hSw); go_simp; try with_reducible rfl)
  try simp only [Act.put, qa, qb, qc, qD, qE, qF]
  refine qTk (v := ?_) 3 rfl (.inl ⟨by rfl, ?_⟩) ?_
  rotate_left
  ·
   (intro w hSw; (try dsimp only at hSw); go_simp; try with_reducible rfl)
  try simp only [Act.put, qa, qb, qc, qD, qE, qF]
  refine qTk (v := ?_) 4 rfl (.inl ⟨by rfl, ?_⟩) ?_
  rotate_left
  ·
   (intro w hSw; (try dsimp only at hSw); go_simp; try with_reducible rfl)
  try simp only [Act.put, qa, qb, qc, qD, qE, qF]
  refine qTk (v := ?_) 5 rfl (.inl ⟨by rfl, ?_⟩) ?_
  rotate_left
  ·
   (intro w hSw; (try dsimp only at hSw); go_simp; try with_reducible rfl)
  try simp only [Act.put, qa, qb, qc, qD, qE, qF]
  refine qTk (v := ?_) 6 rfl (.inl ⟨by rfl, ?_⟩) ?_
  rotate_left
  ·
   (intro w hSw; (try dsimp only at hSw); go_simp; try with_reducible rfl)
  try simp only [Act.put, qa, qb, qc, qD, qE, qF]
  refine qTk (v := ?_) 7 rfl (.inl ⟨by rfl, ?_⟩) ?_
  rotate_left
  ·
   (intro w hSw; (try dsimp only at hSw); go_simp; try with_reducible rfl)
  try simp only [Act.put, qa, qb, qc, qD, qE, qF]
  refine qTk (v := ?_) 8 rfl (.inl ⟨by rfl, ?_⟩) ?_
  rotate_left
  ·
   (intro w hSw; (try dsimp only at hSw); go_simp; try with_reducible rfl)
  try simp only [Act.put, qa, qb, qc, qD, qE, qF]
  refine qTk (v := ?_) 9 rfl (.inl ⟨by rfl, ?_⟩) ?_
  rotate_left
  ·
   (intro w hSw; (try dsimp only at hSw); go_simp; try with_reducible rfl)
  try simp only [Act.put, qa, qb, qc, qD, qE, qF]
  have hw43 : IntKind.i64.wrap (v32 * v36) = v32 * v36 := IntWalk.i64_in _ (by omega)
  refine qTk (v := ?_) 10 rfl (.inl ⟨by rfl, ?_⟩) ?_
  rotate_left
  ·
   (intro w hSw; (try dsimp only at hSw); go_simp; try with_reducible rfl)
  try simp only [Act.put, qa, qb, qc, qD, qE, qF]
  have hw44 : IntKind.i64.wrap (b1 + (v32 * v36)) = b1 + (v32 * v36) := IntWalk.i64_in _ (by omega)
  refine qTk (v := ?_) 11 rfl (.inl ⟨by rfl, ?_⟩) ?_
  rotate_left
  ·
   (intro w hSw; (try dsimp only at hSw); go_simp; try with_reducible rfl)
  try simp only [Act.put, qa, qb, qc, qD, qE, qF]
  refine qTk (v := ?_) 12 rfl (.inl ⟨by rfl, ?_⟩) ?_
  rotate_left
  ·
   (intro w hSw; (try dsimp only at hSw); go_simp; try with_reducible rfl)
  try simp only [Act.put, qa, qb, qc, qD, qE, qF]
  refine wpTail_last (i := 13) qKr rfl rfl (fun K hK => ?_)
  try simp only [Act.put, qa, qb, qc, qD, qE, qF]
  go_simp
  refine hK.out _ _ ?_
  clear hK K
  try simp only [Act.put, qa, qb, qc, qD, qE, qF]
  refine wpTail_done qKr ?_ _
  clear hHeld hw43 hw44
  clear e350 z_e35
  generalize hW5 : ((w6.setCell ⟨w3.heap.size, 0, none⟩ (.int .i64 (b1 + (v32 * v36)))).drew) = w7 at *
  have Kw7 : Chg (w3.heap.size) (w3.heap.size + 1) w6 w7 := by subst hW5; exact qCh
  have Xw7 : Ext w w7 := by subst hW5; exact qXt
  have BL14_w7 : Ext w2 w7 := by subst hW5; exact qXt
  replace b10 := Kw7.cell (by omega) b10
  replace b11 := Kw7.cell (by omega) b11
  replace b12 := Kw7.cell (by omega) b12
  replace b20 := BL14_w7.cell Q13_b20.out
  replace b21 := BL14_w7.cell Q13_b21.out
  replace b22 := BL14_w7.cell Q13_b22.out
  replace b23 := BL14_w7.cell Q13_b23.out
  replace b24 := BL14_w7.cell Q13_b24.out
  replace b30 := BL14_w7.cell Q13_b30.out
  replace f_b30 := BL14_w7.frz Q13_zb3 Q13_f_b30.out
  replace b31 := BL14_w7.cell Q13_b31.out
  replace f_b31 := BL14_w7.frz Q13_zb3 Q13_f_b31.out
  replace b32 := BL14_w7.cell Q13_b32.out
  replace f_b32 := BL14_w7.frz Q13_zb3 Q13_f_b32.out
  replace b250 : w7.cell? ⟨w3.heap.size, 0, none⟩ = some (.int .i64 (b1 + (v32 * v36))) := by subst hW5; go_simp
  replace f_b250 : w7.frozen? ⟨w3.heap.size, 0, none⟩ = false := by subst hW5; first | (simp only [World.frozen?_setCell]; with_reducible assumption) | go_simp
  replace b251 : w7.cell? ⟨w3.heap.size, 1, none⟩ = some (.slice (some ⟨gr19, 0, none⟩) s1.length cfv15u) := by subst hW5; go_simp
  replace f_b251 : w7.frozen? ⟨w3.heap.size, 1, none⟩ = false := by subst hW5; first | (simp only [World.frozen?_setCell]; with_reducible assumption) | go_simp
  replace b252 : w7.cell? ⟨w3.heap.size, 2, none⟩ = some (.slice (some ⟨gr20, 0, none⟩) t1.length cfv15v) := by subst hW5; go_simp
  replace f_b252 : w7.frozen? ⟨w3.heap.size, 2, none⟩ = false := by subst hW5; first | (simp only [World.frozen?_setCell]; with_reducible assumption) | go_simp
  replace e310 := Kw7.cell (by omega) e310
  replace i12 := (Q13_i12.out).ext BL14_w7
  replace O17 := O17.chgN Kw7 (by omega)
  replace O18 := O18.chgN Kw7 (by omega)
  clear Kw7
  have z_b1 : w.heap.size < w7.heap.size := qB b10
  have z_b2 : w.heap.size + 1 < w7.heap.size := qB b20
  have z_b3 : w.heap.size + 1 + 1 < w7.heap.size := qB b30
  have z_b25 : w3.heap.size < w7.heap.size := qB b250
  have z_e31 : bl29 < w7.heap.size := qB e310
  have s_w7 : w.heap.size ≤ w7.heap.size := Xw7.size
  clear hW5
  by_cases hc45 : (1 : Int) < (L.length : Int)
  ·
   go_wp2_with fail
   have hI_e51 : (1 : Int) < (L.length : Int) := by have hB7 : 1 < L.length := (by omega); omega
   obtain ⟨b_e51, o_e51, h_e51, e510⟩ := i12.at 1 (by omega)
   cases h_e51
   obtain ⟨v52, hv52⟩ : ∃ v, L.getD 1 0 = v := ⟨_, rfl⟩
   rw [hv52] at e510
   replace hv52 := Lib.hid hv52
   have y_e51 : bl33 < w7.heap.size := qB e510
   have z_e51 := y_e51
   have h60v52 := hLin.out _ (getD_mem (show 1 < L.length by omega))
   rw [hv52.out] at h60v52
   have hL1 := hv52
   have hm2 := mul_bd2s (x := v32) (y := v52 - v36) h60v32.1 h60v32.2 (by omega) (by omega)
   have hI_e55 : (0 : Int) < (L.length : Int) := by have hB7 : 0 < L.length := (by omega); omega
   obtain ⟨b_e55, o_e55, h_e55, e550⟩ := i12.at 0 (by omega)
   cases h_e55
   rw [Nat.add_zero] at e550
   rw [hv36.out] at e550
   have y_e55 : bl33 < w7.heap.size := qB e550
   have z_e55 := y_e55
   have A56 := O18.cell D (by first | exact hDT | (simp only [List.length_set]; exact hDT))
   obtain ⟨A56a, A56b⟩ := A56
   refine wp_region_tail (S := fun w' => w'.cell? ⟨w.heap.size, 2, none⟩ = some (.slice (some ⟨bl29, ol30, none⟩) t1.length c1) ∧ w'.cell? ⟨w3.heap.size, 2, none⟩ = some (.slice (some ⟨gr20, 0, none⟩) t1.length cfv15v) ∧ w'.cell? ⟨bl29, ol30 + D, none⟩ = some (.int .i64 v32) ∧ w'.cell? ⟨bl33, ol34 + 1, none⟩ = some (.int .i64 v52) ∧ w'.cell? ⟨bl33, ol34, none⟩ = some (.int .i64 v36)) (fun i => decide (17 ≤ i)) qKr ⟨b12, b252, e310, e510, e550⟩ (fun hHeld => ?_)
   refine qTk (v := ?_) 0 rfl (.inl ⟨by rfl, ?_⟩) ?_
   rotate_left
   ·
    (intro w hSw; (try dsimp only at hSw); go_simp; try with_reducible rfl)
   try simp only [Act.put, qa, qb, qc, qD, qE, qF]
   refine qTk (v := ?_) 1 rfl (.inl ⟨by rfl, ?_⟩) ?_
   rotate_left
   ·
    (intro w hSw; (try dsimp only at hSw); go_simp; try with_reducible rfl)
   try simp only [Act.put, qa, qb, qc, qD, qE, qF]
   refine qTk (v := ?_) 2 rfl (.inl ⟨by rfl, ?_⟩) ?_
   rotate_left
   ·
    (intro w hSw; (try dsimp only at hSw); go_simp; try with_reducible rfl)
   try simp only [Act.put, qa, qb, qc, qD, qE, qF]
   refine qTk (v := ?_) 3 rfl (.inl ⟨by rfl, ?_⟩) ?_
   rotate_left
   ·
    (intro w hSw; (try dsimp only at hSw); go_simp; try with_reducible rfl)
   try simp only [Act.put, qa, qb, qc, qD, qE, qF]
   refine qTk (v := ?_) 4 rfl (.inl ⟨by rfl, ?_⟩) ?_
   rotate_left
   ·
    (intro w hSw; (try dsimp only at hSw); go_simp; try with_reducible rfl)
   try simp only [Act.put, qa, qb, qc, qD, qE, qF]
   refine qTk (v := ?_) 5 rfl (.inl ⟨by rfl, ?_⟩) ?_
   rotate_left
   ·
    (intro w hSw; (try dsimp only at hSw); go_simp; try with_reducible rfl)
   try simp only [Act.put, qa, qb, qc, qD, qE, qF]
   refine qTk (v := ?_) 6 rfl (.inl ⟨by rfl, ?_⟩) ?_
   rotate_left
   ·
    (intro w hSw; (try dsimp only at hSw); go_simp; try with_reducible rfl)
   try simp only [Act.put, qa, qb, qc, qD, qE, qF]
   refine qTk (v := ?_) 7 rfl (.inl ⟨by rfl, ?_⟩) ?_
   rotate_left
   ·
    (intro w hSw; (try dsimp only at hSw); go_simp; try with_reducible rfl)
   try simp only [Act.put, qa, qb, qc, qD, qE, qF]
   refine qTk (v := ?_) 8 rfl (.inl ⟨by rfl, ?_⟩) ?_
   rotate_left
   ·
    (intro w hSw; (try dsimp only at hSw); go_simp; try with_reducible rfl)
   try simp only [Act.put, qa, qb, qc, qD, qE, qF]
   refine qTk (v := ?_) 9 rfl (.inl ⟨by rfl, ?_⟩) ?_
   rotate_left
   ·
    (intro w hSw; (try dsimp only at hSw); go_simp; try with_reducible rfl)
   try simp only [Act.put, qa, qb, qc, qD, qE, qF]
   refine qTk (v := ?_) 10 rfl (.inl ⟨by rfl, ?_⟩) ?_
   rotate_left
   ·
    (intro w hSw; (try dsimp only at hSw); go_simp; try with_reducible rfl)
   try simp only [Act.put, qa, qb, qc, qD, qE, qF]
   refine qTk (v := ?_) 11 rfl (.inl ⟨by rfl, ?_⟩) ?_
   rotate_left
   ·
    (intro w hSw; (try dsimp only at hSw); go_simp; try with_reducible rfl)
   try simp only [Act.put, qa, qb, qc, qD, qE, qF]
   refine qTk (v := ?_) 12 rfl (.inl ⟨by rfl, ?_⟩) ?_
   rotate_left
   ·
    (intro w hSw; (try dsimp only at hSw); go_simp; try with_reducible rfl)
   try simp only [Act.put, qa, qb, qc, qD, qE, qF]
   refine qTk (v := ?_) 13 rfl (.inl ⟨by rfl, ?_⟩) ?_
   rotate_left
   ·
    (intro w hSw; (try dsimp only at hSw); go_simp; try with_reducible rfl)
   try simp only [Act.put, qa, qb, qc, qD, qE, qF]
   have hw66 : IntKind.i64.wrap (v52 - v36) = v52 - v36 := IntWalk.i64_in _ (by omega)
   refine qTk (v := ?_) 14 rfl (.inl ⟨by rfl, ?_⟩) ?_
   rotate_left
   ·
    (intro w hSw; (try dsimp only at hSw); go_simp; try with_reducible rfl)
   try simp only [Act.put, qa, qb, qc, qD, qE, qF]
   have hw67 : IntKind.i64.wrap (v32 * (v52 - v36)) = v32 * (v52 - v36) := IntWalk.i64_in _ (by omega)
   refine qTk (v := ?_) 15 rfl (.inl ⟨by rfl, ?_⟩) ?_
   rotate_left
   ·
    (intro w hSw; (try dsimp only at hSw); go_simp; try with_reducible rfl)
   try simp only [Act.put, qa, qb, qc, qD, qE, qF]
   refine qTk (v := ?_) 16 rfl (.inl ⟨by rfl, ?_⟩) ?_
   rotate_left
   ·
    (intro w hSw; (try dsimp only at hSw); go_simp; try with_reducible rfl)
   try simp only [Act.put, qa, qb, qc, qD, qE, qF]
   refine wpTail_last (i := 17) qKr rfl rfl (fun K hK => ?_)
   try simp only [Act.put, qa, qb, qc, qD, qE, qF]
   go_simp
   refine hK.out _ _ ?_
   clear hK K
   try simp only [Act.put, qa, qb, qc, qD, qE, qF]
   refine wpTail_done qKr ?_ _
   clear hHeld hw66 hw67
   clear e310 z_e31
   clear e510 z_e51
   clear e550 z_e55
   generalize hW6 : ((w7.setCell ⟨gr20, D, none⟩ (.int .i64 (v32 * (v52 - v36)))).drew) = w8 at *
   have Kw8 : Chg (gr20) (gr20 + 1) w7 w8 := by subst hW6; exact qCh
   have Xw8 : Ext w w8 := by subst hW6; exact qXt
   have BL14_w8 : Ext w2 w8 := by subst hW6; exact qXt
   replace b10 := Kw8.cell (by omega) b10
   replace b11 := Kw8.cell (by omega) b11
   replace b12 := Kw8.cell (by omega) b12
   replace b20 := BL14_w8.cell Q13_b20.out
   replace b21 := BL14_w8.cell Q13_b21.out
   replace b22 := BL14_w8.cell Q13_b22.out
   replace b23 := BL14_w8.cell Q13_b23.out
   replace b24 := BL14_w8.cell Q13_b24.out
   replace b30 := BL14_w8.cell Q13_b30.out
   replace f_b30 := BL14_w8.frz Q13_zb3 Q13_f_b30.out
   replace b31 := BL14_w8.cell Q13_b31.out
   replace f_b31 := BL14_w8.frz Q13_zb3 Q13_f_b31.out
   replace b32 := BL14_w8.cell Q13_b32.out
   replace f_b32 := BL14_w8.frz Q13_zb3 Q13_f_b32.out
   replace b250 := Kw8.cell (by omega) b250
   replace f_b250 := Kw8.frzO (by omega) z_b25 f_b250
   replace b251 := Kw8.cell (by omega) b251
   replace f_b251 := Kw8.frzO (by omega) z_b25 f_b251
   replace b252 := Kw8.cell (by omega) b252
   replace f_b252 := Kw8.frzO (by omega) z_b25 f_b252
   replace i12 := (Q13_i12.out).ext BL14_w8
   replace O17 := O17.chgN Kw8 (by omega)
   have n_O18 := O18.setD D (v32 * (v52 - v36)) (by first | omega | (simp; omega) | (rw [putUp_len]; simp; omega) | (rw [addUp_len]; omega))
   rw [hW6] at n_O18
   replace O18 := n_O18
   clear n_O18
   clear Kw8
   have z_b1 : w.heap.size < w8.heap.size := qB b10
   have z_b2 : w.heap.size + 1 < w8.heap.size := qB b20
   have z_b3 : w.heap.size + 1 + 1 < w8.heap.size := qB b30
   have z_b25 : w3.heap.size < w8.heap.size := qB b250
   have s_w8 : w.heap.size ≤ w8.heap.size := Xw8.size
   clear hW6
   clear A56a A56b
   go_wp2_with fail
   have hg7 : gr19 < w8.heap.size := (own_lt O17 rfl).2
   by_cases hcl68 : countL (s1.set D (L.length : Int)) = 0
   ·
    refine (cleared_0 (b1 + (v32 * v36)) _ _ (s1.set D (L.length : Int)) _ _ ((O17.ints (by first | omega | (simp only [List.length_set]; omega))).ext qXt) hcl68).mono ?_
    rintro e w9 ⟨svO69, rfl, O69, xw9⟩
    have Lw9 : Ext w8 w9 := Ext.trans qXt xw9
    have Xw9 : Ext w w9 := Xw8.trans Lw9
    replace b10 := Lw9.cell b10
    replace b11 := Lw9.cell b11
    replace b12 := Lw9.cell b12
    replace b20 := Lw9.cell b20
    replace b21 := Lw9.cell b21
    replace b22 := Lw9.cell b22
    replace b23 := Lw9.cell b23
    replace b24 := Lw9.cell b24
    replace b30 := Lw9.cell b30
    replace b31 := Lw9.cell b31
    replace b32 := Lw9.cell b32
    replace f_b30 := Lw9.frz z_b3 f_b30
    replace f_b31 := Lw9.frz z_b3 f_b31
    replace f_b32 := Lw9.frz z_b3 f_b32
    replace b250 := Lw9.cell b250
    replace b251 := Lw9.cell b251
    replace b252 := Lw9.cell b252
    replace f_b250 := Lw9.frz z_b25 f_b250
    replace f_b251 := Lw9.frz z_b25 f_b251
    replace f_b252 := Lw9.frz z_b25 f_b252
    have z_b1 : w.heap.size < w9.heap.size := qB b10
    have z_b2 : w.heap.size + 1 < w9.heap.size := qB b20
    have z_b3 : w.heap.size + 1 + 1 < w9.heap.size := qB b30
    have z_b25 : w3.heap.size < w9.heap.size := qB b250
    replace i12 := i12.ext Lw9
    replace O17 := O17.ext Lw9
    replace O18 := O18.ext Lw9
    have s_w9 : w.heap.size ≤ w9.heap.size := Xw9.size
    have BL14_w9 : Ext w2 w9 := BL14_w8.trans Lw9
    clear xw9
    obtain ⟨aa70, cc71, rfl⟩ := (O69.ints (by simp; omega)).form
    rw [List.length_replicate] at O69 ⊢
    rw [List.length_set] at O69 ⊢
    go_wp2_with fail
    generalize hW7 : (((w9.setCell ⟨w.heap.size + 1 + 1, 0, none⟩ (.int .i64 0)).setCell ⟨w.heap.size + 1 + 1, 1, none⟩ (.slice (some ⟨gr19, 0, none⟩) s1.length cfv15u)).setCell ⟨w.heap.size + 1 + 1, 2, none⟩ (.slice aa70 s1.length cc71)) = w10 at *
    have Kw10 : Chg (w.heap.size + 1 + 1) (w.heap.size + 1 + 1 + 1) w9 w10 := by subst hW7; exact qCh
    have Xw10 : Ext w w10 := by subst hW7; exact qXt
    replace b10 := Kw10.cell (by omega) b10
    replace b11 := Kw10.cell (by omega) b11
    replace b12 := Kw10.cell (by omega) b12
    replace b20 := Kw10.cell (by omega) b20
    replace b21 := Kw10.cell (by omega) b21
    replace b22 := Kw10.cell (by omega) b22
    replace b23 := Kw10.cell (by omega) b23
    replace b24 := Kw10.cell (by omega) b24
    replace b30 : w10.cell? ⟨w.heap.size + 1 + 1, 0, none⟩ = some (.int .i64 0) := by subst hW7; go_simp
    replace f_b30 : w10.frozen? ⟨w.heap.size + 1 + 1, 0, none⟩ = false := by subst hW7; first | (simp only [World.frozen?_setCell]; with_reducible assumption) | go_simp
    replace b31 : w10.cell? ⟨w.heap.size + 1 + 1, 1, none⟩ = some (.slice (some ⟨gr19, 0, none⟩) s1.length cfv15u) := by subst hW7; go_simp
    replace f_b31 : w10.frozen? ⟨w.heap.size + 1 + 1, 1, none⟩ = false := by subst hW7; first | (simp only [World.frozen?_setCell]; with_reducible assumption) | go_simp
    replace b32 : w10.cell? ⟨w.heap.size + 1 + 1, 2, none⟩ = some (.slice aa70 s1.length cc71) := by subst hW7; go_simp
    replace f_b32 : w10.frozen? ⟨w.heap.size + 1 + 1, 2, none⟩ = false := by subst hW7; first | (simp only [World.frozen?_setCell]; with_reducible assumption) | go_simp
    replace b250 := Kw10.cell (by omega) b250
    replace f_b250 := Kw10.frzO (by omega) z_b25 f_b250
    replace b251 := Kw10.cell (by omega) b251
    replace f_b251 := Kw10.frzO (by omega) z_b25 f_b251
    replace b252 := Kw10.cell (by omega) b252
    replace f_b252 := Kw10.frzO (by omega) z_b25 f_b252
    replace i12 := i12.chg Kw10 (by omega)
    replace O17 := O17.chgN Kw10 (by omega)
    replace O18 := O18.chgN Kw10 (by omega)
    replace O69 := O69.chg Kw10 (by omega)
    clear Kw10
    have z_b1 : w.heap.size < w10.heap.size := qB b10
    have z_b2 : w.heap.size + 1 < w10.heap.size := qB b20
    have z_b3 : w.heap.size + 1 + 1 < w10.heap.size := qB b30
    have z_b25 : w3.heap.size < w10.heap.size := qB b250
    have s_w10 : w.heap.size ≤ w10.heap.size := Xw10.size
    clear hW7
    refine bodyPost_ret (v := .agg #[.int .i64 0, .slice (some ⟨gr19, 0, none⟩) s1.length cfv15u, .slice aa70 s1.length cc71]) (by simp only [results, Try.results152]; go_simp) rfl ?_
    obtain ⟨hpB, hpT⟩ := cut_prog (b := b1) (e := toI v7 T B ht) hsm.out hDN (sliceB_in hsl.out).2.2.2 hL.out hx1.out
    have qB := hpB (b1 + v32 * v36) (by right; rw [hL0.out])
    have qT := hpT (v32 * (v52 - v36)) (by rw [if_pos (by omega), hL1.out, hL0.out])
    rw [show idxS (s1.getD D 0) F T B hf ht = L by rw [hv7.out]; exact hL.out, qB, qT]
    have e1 := (O17.ints (by first | omega | (simp only [List.length_set]; omega))).lower (lo' := w.heap.size) (by omega)
    have e2 := (O69.ints (by simp; omega)).lower (lo' := w.heap.size) (by omega)
    have e3 := (O17.lower (base' := w.heap.size) (by omega)).z
    have e4 := (O69.lower (base' := w.heap.size) (by omega)).z
    refine ⟨.slice (some ⟨gr19, 0, none⟩) s1.length cfv15u, .slice aa70 s1.length cc71, ?_, e1, ?_, e3, ?_, (fun _ hn h => by obtain ⟨g9, h7, h8, h9⟩ := O69.z.lt (by intro h0; have h1 := congrArg List.length h0; simp only [List.length_replicate, List.length_nil] at h1; omega); rw [h7] at h; have h6 : gr19 = g9 := Option.some.inj h; omega), Xw10⟩
    ·
     unfold tidyB; rw [if_pos hcl68]
    ·
     unfold tidyT; rw [if_pos hcl68, List.length_set]
     exact e2
    ·
     unfold tidyT; rw [if_pos hcl68, List.length_set]
     exact e4
   ·
    refine (cleared_1 (b1 + (v32 * v36)) _ _ (s1.set D (L.length : Int)) ((t1.set D 0).set D (v32 * (v52 - v36))) _ _ _ ((O17.ints (by first | omega | (simp only [List.length_set]; omega))).ext qXt) ((O18.ints (by first | omega | (simp only [List.length_set]; omega))).ext qXt) hcl68).mono ?_
    rintro e w9 ⟨rfl, xw9⟩
    have Lw9 : Ext w8 w9 := Ext.trans qXt xw9
    have Xw9 : Ext w w9 := Xw8.trans Lw9
    replace b10 := Lw9.cell b10
    replace b11 := Lw9.cell b11
    replace b12 := Lw9.cell b12
    replace b20 := Lw9.cell b20
    replace b21 := Lw9.cell b21
    replace b22 := Lw9.cell b22
    replace b23 := Lw9.cell b23
    replace b24 := Lw9.cell b24
    replace b30 := Lw9.cell b30
    replace b31 := Lw9.cell b31
    replace b32 := Lw9.cell b32
    replace f_b30 := Lw9.frz z_b3 f_b30
    replace f_b31 := Lw9.frz z_b3 f_b31
    replace f_b32 := Lw9.frz z_b3 f_b32
    replace b250 := Lw9.cell b250
    replace b251 := Lw9.cell b251
    replace b252 := Lw9.cell b252
    replace f_b250 := Lw9.frz z_b25 f_b250
    replace f_b251 := Lw9.frz z_b25 f_b251
    replace f_b252 := Lw9.frz z_b25 f_b252
    have z_b1 : w.heap.size < w9.heap.size := qB b10
    have z_b2 : w.heap.size + 1 < w9.heap.size := qB b20
    have z_b3 : w.heap.size + 1 + 1 < w9.heap.size := qB b30
    have z_b25 : w3.heap.size < w9.heap.size := qB b250
    replace i12 := i12.ext Lw9
    replace O17 := O17.ext Lw9
    replace O18 := O18.ext Lw9
    have s_w9 : w.heap.size ≤ w9.heap.size := Xw9.size
    have BL14_w9 : Ext w2 w9 := BL14_w8.trans Lw9
    clear xw9
    go_wp2_with fail
    generalize hW8 : (((w9.setCell ⟨w.heap.size + 1 + 1, 0, none⟩ (.int .i64 (b1 + (v32 * v36)))).setCell ⟨w.heap.size + 1 + 1, 1, none⟩ (.slice (some ⟨gr19, 0, none⟩) s1.length cfv15u)).setCell ⟨w.heap.size + 1 + 1, 2, none⟩ (.slice (some ⟨gr20, 0, none⟩) t1.length cfv15v)) = w10 at *
    have Kw10 : Chg (w.heap.size + 1 + 1) (w.heap.size + 1 + 1 + 1) w9 w10 := by subst hW8; exact qCh
    have Xw10 : Ext w w10 := by subst hW8; exact qXt
    replace b10 := Kw10.cell (by omega) b10
    replace b11 := Kw10.cell (by omega) b11
    replace b12 := Kw10.cell (by omega) b12
    replace b20 := Kw10.cell (by omega) b20
    replace b21 := Kw10.cell (by omega) b21
    replace b22 := Kw10.cell (by omega) b22
    replace b23 := Kw10.cell (by omega) b23
    replace b24 := Kw10.cell (by omega) b24
    replace b30 : w10.cell? ⟨w.heap.size + 1 + 1, 0, none⟩ = some (.int .i64 (b1 + (v32 * v36))) := by subst hW8; go_simp
    replace f_b30 : w10.frozen? ⟨w.heap.size + 1 + 1, 0, none⟩ = false := by subst hW8; first | (simp only [World.frozen?_setCell]; with_reducible assumption) | go_simp
    replace b31 : w10.cell? ⟨w.heap.size + 1 + 1, 1, none⟩ = some (.slice (some ⟨gr19, 0, none⟩) s1.length cfv15u) := by subst hW8; go_simp
    replace f_b31 : w10.frozen? ⟨w.heap.size + 1 + 1, 1, none⟩ = false := by subst hW8; first | (simp only [World.frozen?_setCell]; with_reducible assumption) | go_simp
    replace b32 : w10.cell? ⟨w.heap.size + 1 + 1, 2, none⟩ = some (.slice (some ⟨gr20, 0, none⟩) t1.length cfv15v) := by subst hW8; go_simp
    replace f_b32 : w10.frozen? ⟨w.heap.size + 1 + 1, 2, none⟩ = false := by subst hW8; first | (simp only [World.frozen?_setCell]; with_reducible assumption) | go_simp
    replace b250 := Kw10.cell (by omega) b250
    replace f_b250 := Kw10.frzO (by omega) z_b25 f_b250
    replace b251 := Kw10.cell (by omega) b251
    replace f_b251 := Kw10.frzO (by omega) z_b25 f_b251
    replace b252 := Kw10.cell (by omega) b252
    replace f_b252 := Kw10.frzO (by omega) z_b25 f_b252
    replace i12 := i12.chg Kw10 (by omega)
    replace O17 := O17.chgN Kw10 (by omega)
    replace O18 := O18.chgN Kw10 (by omega)
    clear Kw10
    have z_b1 : w.heap.size < w10.heap.size := qB b10
    have z_b2 : w.heap.size + 1 < w10.heap.size := qB b20
    have z_b3 : w.heap.size + 1 + 1 < w10.heap.size := qB b30
    have z_b25 : w3.heap.size < w10.heap.size := qB b250
    have s_w10 : w.heap.size ≤ w10.heap.size := Xw10.size
    clear hW8
    refine bodyPost_ret (v := .agg #[.int .i64 (b1 + (v32 * v36)), .slice (some ⟨gr19, 0, none⟩) s1.length cfv15u, .slice (some ⟨gr20, 0, none⟩) t1.length cfv15v]) (by simp only [results, Try.results152]; go_simp) rfl ?_
    obtain ⟨hpB, hpT⟩ := cut_prog (b := b1) (e := toI v7 T B ht) hsm.out hDN (sliceB_in hsl.out).2.2.2 hL.out hx1.out
    have qB := hpB (b1 + v32 * v36) (by right; rw [hL0.out])
    have qT := hpT (v32 * (v52 - v36)) (by rw [if_pos (by omega), hL1.out, hL0.out])
    rw [show idxS (s1.getD D 0) F T B hf ht = L by rw [hv7.out]; exact hL.out, qB, qT]
    have e1 := (O17.ints (by first | omega | (simp only [List.length_set]; omega))).lower (lo' := w.heap.size) (by omega)
    have e2 := (O18.ints (by first | omega | (simp only [List.length_set]; omega))).lower (lo' := w.heap.size) (by omega)
    have e3 := (O17.lower (base' := w.heap.size) (by omega)).z
    have e4 := (O18.lower (base' := w.heap.size) (by omega)).z
    rw [List.set_set] at e2 e4
    refine ⟨.slice (some ⟨gr19, 0, none⟩) s1.length cfv15u, .slice (some ⟨gr20, 0, none⟩) t1.length cfv15v, ?_, e1, ?_, e3, ?_, (fun _ _ h => hggr19 (Option.some.inj h)), Xw10⟩
    ·
     unfold tidyB; rw [if_neg hcl68]
    ·
     unfold tidyT; rw [if_neg hcl68]
     exact e2
    ·
     unfold tidyT; rw [if_neg hcl68]
     exact e4
  ·
   go_wp2_with fail
   have hg7 : gr19 < w7.heap.size := (own_lt O17 rfl).2
   by_cases hcl72 : countL (s1.set D (L.length : Int)) = 0
   ·
    refine (cleared_0 (b1 + (v32 * v36)) _ _ (s1.set D (L.length : Int)) _ _ ((O17.ints (by first | omega | (simp only [List.length_set]; omega))).ext qXt) hcl72).mono ?_
    rintro e w8 ⟨svO73, rfl, O73, xw8⟩
    have Lw8 : Ext w7 w8 := Ext.trans qXt xw8
    have Xw8 : Ext w w8 := Xw7.trans Lw8
    replace b10 := Lw8.cell b10
    replace b11 := Lw8.cell b11
    replace b12 := Lw8.cell b12
    replace b20 := Lw8.cell b20
    replace b21 := Lw8.cell b21
    replace b22 := Lw8.cell b22
    replace b23 := Lw8.cell b23
    replace b24 := Lw8.cell b24
    replace b30 := Lw8.cell b30
    replace b31 := Lw8.cell b31
    replace b32 := Lw8.cell b32
    replace f_b30 := Lw8.frz z_b3 f_b30
    replace f_b31 := Lw8.frz z_b3 f_b31
    replace f_b32 := Lw8.frz z_b3 f_b32
    replace b250 := Lw8.cell b250
    replace b251 := Lw8.cell b251
    replace b252 := Lw8.cell b252
    replace f_b250 := Lw8.frz z_b25 f_b250
    replace f_b251 := Lw8.frz z_b25 f_b251
    replace f_b252 := Lw8.frz z_b25 f_b252
    replace e310 := Lw8.cell e310
    have z_b1 : w.heap.size < w8.heap.size := qB b10
    have z_b2 : w.heap.size + 1 < w8.heap.size := qB b20
    have z_b3 : w.heap.size + 1 + 1 < w8.heap.size := qB b30
    have z_b25 : w3.heap.size < w8.heap.size := qB b250
    have z_e31 : bl29 < w8.heap.size := qB e310
    replace i12 := i12.ext Lw8
    replace O17 := O17.ext Lw8
    replace O18 := O18.ext Lw8
    have s_w8 : w.heap.size ≤ w8.heap.size := Xw8.size
    have BL14_w8 : Ext w2 w8 := BL14_w7.trans Lw8
    clear xw8
    obtain ⟨aa74, cc75, rfl⟩ := (O73.ints (by simp; omega)).form
    rw [List.length_replicate] at O73 ⊢
    rw [List.length_set] at O73 ⊢
    go_wp2_with fail
    generalize hW9 : (((w8.setCell ⟨w.heap.size + 1 + 1, 0, none⟩ (.int .i64 0)).setCell ⟨w.heap.size + 1 + 1, 1, none⟩ (.slice (some ⟨gr19, 0, none⟩) s1.length cfv15u)).setCell ⟨w.heap.size + 1 + 1, 2, none⟩ (.slice aa74 s1.length cc75)) = w9 at *
    have Kw9 : Chg (w.heap.size + 1 + 1) (w.heap.size + 1 + 1 + 1) w8 w9 := by subst hW9; exact qCh
    have Xw9 : Ext w w9 := by subst hW9; exact qXt
    replace b10 := Kw9.cell (by omega) b10
    replace b11 := Kw9.cell (by omega) b11
    replace b12 := Kw9.cell (by omega) b12
    replace b20 := Kw9.cell (by omega) b20
    replace b21 := Kw9.cell (by omega) b21
    replace b22 := Kw9.cell (by omega) b22
    replace b23 := Kw9.cell (by omega) b23
    replace b24 := Kw9.cell (by omega) b24
    replace b30 : w9.cell? ⟨w.heap.size + 1 + 1, 0, none⟩ = some (.int .i64 0) := by subst hW9; go_simp
    replace f_b30 : w9.frozen? ⟨w.heap.size + 1 + 1, 0, none⟩ = false := by subst hW9; first | (simp only [World.frozen?_setCell]; with_reducible assumption) | go_simp
    replace b31 : w9.cell? ⟨w.heap.size + 1 + 1, 1, none⟩ = some (.slice (some ⟨gr19, 0, none⟩) s1.length cfv15u) := by subst hW9; go_simp
    replace f_b31 : w9.frozen? ⟨w.heap.size + 1 + 1, 1, none⟩ = false := by subst hW9; first | (simp only [World.frozen?_setCell]; with_reducible assumption) | go_simp
    replace b32 : w9.cell? ⟨w.heap.size + 1 + 1, 2, none⟩ = some (.slice aa74 s1.length cc75) := by subst hW9; go_simp
    replace f_b32 : w9.frozen? ⟨w.heap.size + 1 + 1, 2, none⟩ = false := by subst hW9; first | (simp only [World.frozen?_setCell]; with_reducible assumption) | go_simp
    replace b250 := Kw9.cell (by omega) b250
    replace f_b250 := Kw9.frzO (by omega) z_b25 f_b250
    replace b251 := Kw9.cell (by omega) b251
    replace f_b251 := Kw9.frzO (by omega) z_b25 f_b251
    replace b252 := Kw9.cell (by omega) b252
    replace f_b252 := Kw9.frzO (by omega) z_b25 f_b252
    replace e310 := Kw9.cell (by omega) e310
    replace i12 := i12.chg Kw9 (by omega)
    replace O17 := O17.chgN Kw9 (by omega)
    replace O18 := O18.chgN Kw9 (by omega)
    replace O73 := O73.chg Kw9 (by omega)
    clear Kw9
    have z_b1 : w.heap.size < w9.heap.size := qB b10
    have z_b2 : w.heap.size + 1 < w9.heap.size := qB b20
    have z_b3 : w.heap.size + 1 + 1 < w9.heap.size := qB b30
    have z_b25 : w3.heap.size < w9.heap.size := qB b250
    have z_e31 : bl29 < w9.heap.size := qB e310
    have s_w9 : w.heap.size ≤ w9.heap.size := Xw9.size
    clear hW9
    refine bodyPost_ret (v := .agg #[.int .i64 0, .slice (some ⟨gr19, 0, none⟩) s1.length cfv15u, .slice aa74 s1.length cc75]) (by simp only [results, Try.results152]; go_simp) rfl ?_
    obtain ⟨hpB, hpT⟩ := cut_prog (b := b1) (e := toI v7 T B ht) hsm.out hDN (sliceB_in hsl.out).2.2.2 hL.out hx1.out
    have qB := hpB (b1 + v32 * v36) (by right; rw [hL0.out])
    have qT := hpT (0) (by rw [if_neg (by omega)])
    rw [show idxS (s1.getD D 0) F T B hf ht = L by rw [hv7.out]; exact hL.out, qB, qT]
    have e1 := (O17.ints (by first | omega | (simp only [List.length_set]; omega))).lower (lo' := w.heap.size) (by omega)
    have e2 := (O73.ints (by simp; omega)).lower (lo' := w.heap.size) (by omega)
    have e3 := (O17.lower (base' := w.heap.size) (by omega)).z
    have e4 := (O73.lower (base' := w.heap.size) (by omega)).z
    refine ⟨.slice (some ⟨gr19, 0, none⟩) s1.length cfv15u, .slice aa74 s1.length cc75, ?_, e1, ?_, e3, ?_, (fun _ hn h => by obtain ⟨g9, h7, h8, h9⟩ := O73.z.lt (by intro h0; have h1 := congrArg List.length h0; simp only [List.length_replicate, List.length_nil] at h1; omega); rw [h7] at h; have h6 : gr19 = g9 := Option.some.inj h; omega), Xw9⟩
    ·
     unfold tidyB; rw [if_pos hcl72]
    ·
     unfold tidyT; rw [if_pos hcl72, List.length_set]
     exact e2
    ·
     unfold tidyT; rw [if_pos hcl72, List.length_set]
     exact e4
   ·
    refine (cleared_1 (b1 + (v32 * v36)) _ _ (s1.set D (L.length : Int)) (t1.set D 0) _ _ _ ((O17.ints (by first | omega | (simp only [List.length_set]; omega))).ext qXt) ((O18.ints (by first | omega | (simp only [List.length_set]; omega))).ext qXt) hcl72).mono ?_
    rintro e w8 ⟨rfl, xw8⟩
    have Lw8 : Ext w7 w8 := Ext.trans qXt xw8
    have Xw8 : Ext w w8 := Xw7.trans Lw8
    replace b10 := Lw8.cell b10
    replace b11 := Lw8.cell b11
    replace b12 := Lw8.cell b12
    replace b20 := Lw8.cell b20
    replace b21 := Lw8.cell b21
    replace b22 := Lw8.cell b22
    replace b23 := Lw8.cell b23
    replace b24 := Lw8.cell b24
    replace b30 := Lw8.cell b30
    replace b31 := Lw8.cell b31
    replace b32 := Lw8.cell b32
    replace f_b30 := Lw8.frz z_b3 f_b30
    replace f_b31 := Lw8.frz z_b3 f_b31
    replace f_b32 := Lw8.frz z_b3 f_b32
    replace b250 := Lw8.cell b250
    replace b251 := Lw8.cell b251
    replace b252 := Lw8.cell b252
    replace f_b250 := Lw8.frz z_b25 f_b250
    replace f_b251 := Lw8.frz z_b25 f_b251
    replace f_b252 := Lw8.frz z_b25 f_b252
    replace e310 := Lw8.cell e310
    have z_b1 : w.heap.size < w8.heap.size := qB b10
    have z_b2 : w.heap.size + 1 < w8.heap.size := qB b20
    have z_b3 : w.heap.size + 1 + 1 < w8.heap.size := qB b30
    have z_b25 : w3.heap.size < w8.heap.size := qB b250
    have z_e31 : bl29 < w8.heap.size := qB e310
    replace i12 := i12.ext Lw8
    replace O17 := O17.ext Lw8
    replace O18 := O18.ext Lw8
    have s_w8 : w.heap.size ≤ w8.heap.size := Xw8.size
    have BL14_w8 : Ext w2 w8 := BL14_w7.trans Lw8
    clear xw8
    go_wp2_with fail
    generalize hW10 : (((w8.setCell ⟨w.heap.size + 1 + 1, 0, none⟩ (.int .i64 (b1 + (v32 * v36)))).setCell ⟨w.heap.size + 1 + 1, 1, none⟩ (.slice (some ⟨gr19, 0, none⟩) s1.length cfv15u)).setCell ⟨w.heap.size + 1 + 1, 2, none⟩ (.slice (some ⟨gr20, 0, none⟩) t1.length cfv15v)) = w9 at *
    have Kw9 : Chg (w.heap.size + 1 + 1) (w.heap.size + 1 + 1 + 1) w8 w9 := by subst hW10; exact qCh
    have Xw9 : Ext w w9 := by subst hW10; exact qXt
    replace b10 := Kw9.cell (by omega) b10
    replace b11 := Kw9.cell (by omega) b11
    replace b12 := Kw9.cell (by omega) b12
    replace b20 := Kw9.cell (by omega) b20
    replace b21 := Kw9.cell (by omega) b21
    replace b22 := Kw9.cell (by omega) b22
    replace b23 := Kw9.cell (by omega) b23
    replace b24 := Kw9.cell (by omega) b24
    replace b30 : w9.cell? ⟨w.heap.size + 1 + 1, 0, none⟩ = some (.int .i64 (b1 + (v32 * v36))) := by subst hW10; go_simp
    replace f_b30 : w9.frozen? ⟨w.heap.size + 1 + 1, 0, none⟩ = false := by subst hW10; first | (simp only [World.frozen?_setCell]; with_reducible assumption) | go_simp
    replace b31 : w9.cell? ⟨w.heap.size + 1 + 1, 1, none⟩ = some (.slice (some ⟨gr19, 0, none⟩) s1.length cfv15u) := by subst hW10; go_simp
    replace f_b31 : w9.frozen? ⟨w.heap.size + 1 + 1, 1, none⟩ = false := by subst hW10; first | (simp only [World.frozen?_setCell]; with_reducible assumption) | go_simp
    replace b32 : w9.cell? ⟨w.heap.size + 1 + 1, 2, none⟩ = some (.slice (some ⟨gr20, 0, none⟩) t1.length cfv15v) := by subst hW10; go_simp
    replace f_b32 : w9.frozen? ⟨w.heap.size + 1 + 1, 2, none⟩ = false := by subst hW10; first | (simp only [World.frozen?_setCell]; with_reducible assumption) | go_simp
    replace b250 := Kw9.cell (by omega) b250
    replace f_b250 := Kw9.frzO (by omega) z_b25 f_b250
    replace b251 := Kw9.cell (by omega) b251
    replace f_b251 := Kw9.frzO (by omega) z_b25 f_b251
    replace b252 := Kw9.cell (by omega) b252
    replace f_b252 := Kw9.frzO (by omega) z_b25 f_b252
    replace e310 := Kw9.cell (by omega) e310
    replace i12 := i12.chg Kw9 (by omega)
    replace O17 := O17.chgN Kw9 (by omega)
    replace O18 := O18.chgN Kw9 (by omega)
    clear Kw9
    have z_b1 : w.heap.size < w9.heap.size := qB b10
    have z_b2 : w.heap.size + 1 < w9.heap.size := qB b20
    have z_b3 : w.heap.size + 1 + 1 < w9.heap.size := qB b30
    have z_b25 : w3.heap.size < w9.heap.size := qB b250
    have z_e31 : bl29 < w9.heap.size := qB e310
    have s_w9 : w.heap.size ≤ w9.heap.size := Xw9.size
    clear hW10
    refine bodyPost_ret (v := .agg #[.int .i64 (b1 + (v32 * v36)), .slice (some ⟨gr19, 0, none⟩) s1.length cfv15u, .slice (some ⟨gr20, 0, none⟩) t1.length cfv15v]) (by simp only [results, Try.results152]; go_simp) rfl ?_
    obtain ⟨hpB, hpT⟩ := cut_prog (b := b1) (e := toI v7 T B ht) hsm.out hDN (sliceB_in hsl.out).2.2.2 hL.out hx1.out
    have qB := hpB (b1 + v32 * v36) (by right; rw [hL0.out])
    have qT := hpT (0) (by rw [if_neg (by omega)])
    rw [show idxS (s1.getD D 0) F T B hf ht = L by rw [hv7.out]; exact hL.out, qB, qT]
    have e1 := (O17.ints (by first | omega | (simp only [List.length_set]; omega))).lower (lo' := w.heap.size) (by omega)
    have e2 := (O18.ints (by first | omega | (simp only [List.length_set]; omega))).lower (lo' := w.heap.size) (by omega)
    have e3 := (O17.lower (base' := w.heap.size) (by omega)).z
    have e4 := (O18.lower (base' := w.heap.size) (by omega)).z
    refine ⟨.slice (some ⟨gr19, 0, none⟩) s1.length cfv15u, .slice (some ⟨gr20, 0, none⟩) t1.length cfv15v, ?_, e1, ?_, e3, ?_, (fun _ _ h => hggr19 (Option.some.inj h)), Xw9⟩
    ·
     unfold tidyB; rw [if_neg hcl72]
    ·
     unfold tidyT; rw [if_neg hcl72]
     exact e2
    ·
     unfold tidyT; rw [if_neg hcl72]
     exact e4
 ·
  have hq76 : ¬ ((1 : Int) < (L.length : Int)) := (by omega)
  go_wp2_with fail
  generalize hW11 : (w5.setCell ⟨gr20, D, none⟩ (.int .i64 0)) = w6 at *
  have Kw6 : Chg (gr20) (gr20 + 1) w5 w6 := by subst hW11; exact qCh
  have Xw6 : Ext w w6 := by subst hW11; exact qXt
  have BL14_w6 : Ext w2 w6 := by subst hW11; exact qXt
  replace b10 := BL14_w6.cell Q13_b10.out
  replace b11 := BL14_w6.cell Q13_b11.out
  replace b12 := BL14_w6.cell Q13_b12.out
  replace b20 := BL14_w6.cell Q13_b20.out
  replace b21 := BL14_w6.cell Q13_b21.out
  replace b22 := BL14_w6.cell Q13_b22.out
  replace b23 := BL14_w6.cell Q13_b23.out
  replace b24 := BL14_w6.cell Q13_b24.out
  replace b30 := BL14_w6.cell Q13_b30.out
  replace f_b30 := BL14_w6.frz Q13_zb3 Q13_f_b30.out
  replace b31 := BL14_w6.cell Q13_b31.out
  replace f_b31 := BL14_w6.frz Q13_zb3 Q13_f_b31.out
  replace b32 := BL14_w6.cell Q13_b32.out
  replace f_b32 := BL14_w6.frz Q13_zb3 Q13_f_b32.out
  replace b250 := Kw6.cell (by omega) b250
  replace f_b250 := Kw6.frzO (by omega) z_b25 f_b250
  replace b251 := Kw6.cell (by omega) b251
  replace f_b251 := Kw6.frzO (by omega) z_b25 f_b251
  replace b252 := Kw6.cell (by omega) b252
  replace f_b252 := Kw6.frzO (by omega) z_b25 f_b252
  replace i12 := (Q13_i12.out).ext BL14_w6
  replace O17 := O17.chgN Kw6 (by omega)
  have n_O18 := O18.set D (0) (by first | omega | (simp; omega) | (rw [putUp_len]; simp; omega) | (rw [addUp_len]; omega))
  rw [hW11] at n_O18
  replace O18 := n_O18
  clear n_O18
  clear Kw6
  have z_b1 : w.heap.size < w6.heap.size := qB b10
  have z_b2 : w.heap.size + 1 < w6.heap.size := qB b20
  have z_b3 : w.heap.size + 1 + 1 < w6.heap.size := qB b30
  have z_b25 : w3.heap.size < w6.heap.size := qB b250
  have s_w6 : w.heap.size ≤ w6.heap.size := Xw6.size
  clear hW11
  clear A27a A27b
  have hg7 : gr19 < w6.heap.size := (own_lt O17 rfl).2
  by_cases hcl77 : countL (s1.set D (L.length : Int)) = 0
  ·
   refine (cleared_0 b1 _ _ (s1.set D (L.length : Int)) _ _ ((O17.ints (by first | omega | (simp only [List.length_set]; omega))).ext qXt) hcl77).mono ?_
   rintro e w7 ⟨svO78, rfl, O78, xw7⟩
   have Lw7 : Ext w6 w7 := Ext.trans qXt xw7
   have Xw7 : Ext w w7 := Xw6.trans Lw7
   replace b10 := Lw7.cell b10
   replace b11 := Lw7.cell b11
   replace b12 := Lw7.cell b12
   replace b20 := Lw7.cell b20
   replace b21 := Lw7.cell b21
   replace b22 := Lw7.cell b22
   replace b23 := Lw7.cell b23
   replace b24 := Lw7.cell b24
   replace b30 := Lw7.cell b30
   replace b31 := Lw7.cell b31
   replace b32 := Lw7.cell b32
   replace f_b30 := Lw7.frz z_b3 f_b30
   replace f_b31 := Lw7.frz z_b3 f_b31
   replace f_b32 := Lw7.frz z_b3 f_b32
   replace b250 := Lw7.cell b250
   replace b251 := Lw7.cell b251
   replace b252 := Lw7.cell b252
   replace f_b250 := Lw7.frz z_b25 f_b250
   replace f_b251 := Lw7.frz z_b25 f_b251
   replace f_b252 := Lw7.frz z_b25 f_b252
   have z_b1 : w.heap.size < w7.heap.size := qB b10
   have z_b2 : w.heap.size + 1 < w7.heap.size := qB b20
   have z_b3 : w.heap.size + 1 + 1 < w7.heap.size := qB b30
   have z_b25 : w3.heap.size < w7.heap.size := qB b250
   replace i12 := i12.ext Lw7
   replace O17 := O17.ext Lw7
   replace O18 := O18.ext Lw7
   have s_w7 : w.heap.size ≤ w7.heap.size := Xw7.size
   have BL14_w7 : Ext w2 w7 := BL14_w6.trans Lw7
   clear xw7
   obtain ⟨aa79, cc80, rfl⟩ := (O78.ints (by simp; omega)).form
   rw [List.length_replicate] at O78 ⊢
   rw [List.length_set] at O78 ⊢
   go_wp2_with fail
   generalize hW12 : (((w7.setCell ⟨w.heap.size + 1 + 1, 0, none⟩ (.int .i64 0)).setCell ⟨w.heap.size + 1 + 1, 1, none⟩ (.slice (some ⟨gr19, 0, none⟩) s1.length cfv15u)).setCell ⟨w.heap.size + 1 + 1, 2, none⟩ (.slice aa79 s1.length cc80)) = w8 at *
   have Kw8 : Chg (w.heap.size + 1 + 1) (w.heap.size + 1 + 1 + 1) w7 w8 := by subst hW12; exact qCh
   have Xw8 : Ext w w8 := by subst hW12; exact qXt
   replace b10 := Kw8.cell (by omega) b10
   replace b11 := Kw8.cell (by omega) b11
   replace b12 := Kw8.cell (by omega) b12
   replace b20 := Kw8.cell (by omega) b20
   replace b21 := Kw8.cell (by omega) b21
   replace b22 := Kw8.cell (by omega) b22
   replace b23 := Kw8.cell (by omega) b23
   replace b24 := Kw8.cell (by omega) b24
   replace b30 : w8.cell? ⟨w.heap.size + 1 + 1, 0, none⟩ = some (.int .i64 0) := by subst hW12; go_simp
   replace f_b30 : w8.frozen? ⟨w.heap.size + 1 + 1, 0, none⟩ = false := by subst hW12; first | (simp only [World.frozen?_setCell]; with_reducible assumption) | go_simp
   replace b31 : w8.cell? ⟨w.heap.size + 1 + 1, 1, none⟩ = some (.slice (some ⟨gr19, 0, none⟩) s1.length cfv15u) := by subst hW12; go_simp
   replace f_b31 : w8.frozen? ⟨w.heap.size + 1 + 1, 1, none⟩ = false := by subst hW12; first | (simp only [World.frozen?_setCell]; with_reducible assumption) | go_simp
   replace b32 : w8.cell? ⟨w.heap.size + 1 + 1, 2, none⟩ = some (.slice aa79 s1.length cc80) := by subst hW12; go_simp
   replace f_b32 : w8.frozen? ⟨w.heap.size + 1 + 1, 2, none⟩ = false := by subst hW12; first | (simp only [World.frozen?_setCell]; with_reducible assumption) | go_simp
   replace b250 := Kw8.cell (by omega) b250
   replace f_b250 := Kw8.frzO (by omega) z_b25 f_b250
   replace b251 := Kw8.cell (by omega) b251
   replace f_b251 := Kw8.frzO (by omega) z_b25 f_b251
   replace b252 := Kw8.cell (by omega) b252
   replace f_b252 := Kw8.frzO (by omega) z_b25 f_b252
   replace i12 := i12.chg Kw8 (by omega)
   replace O17 := O17.chgN Kw8 (by omega)
   replace O18 := O18.chgN Kw8 (by omega)
   replace O78 := O78.chg Kw8 (by omega)
   clear Kw8
   have z_b1 : w.heap.size < w8.heap.size := qB b10
   have z_b2 : w.heap.size + 1 < w8.heap.size := qB b20
   have z_b3 : w.heap.size + 1 + 1 < w8.heap.size := qB b30
   have z_b25 : w3.heap.size < w8.heap.size := qB b250
   have s_w8 : w.heap.size ≤ w8.heap.size := Xw8.size
   clear hW12
   refine bodyPost_ret (v := .agg #[.int .i64 0, .slice (some ⟨gr19, 0, none⟩) s1.length cfv15u, .slice aa79 s1.length cc80]) (by simp only [results, Try.results152]; go_simp) rfl ?_
   obtain ⟨hpB, hpT⟩ := cut_prog (b := b1) (e := toI v7 T B ht) hsm.out hDN (sliceB_in hsl.out).2.2.2 hL.out (rfl : t1.getD D 0 = t1.getD D 0)
   have qB := hpB (b1) (by left; omega)
   have qT := hpT (0) (by rw [if_neg (by omega)])
   rw [show idxS (s1.getD D 0) F T B hf ht = L by rw [hv7.out]; exact hL.out, qB, qT]
   have e1 := (O17.ints (by first | omega | (simp only [List.length_set]; omega))).lower (lo' := w.heap.size) (by omega)
   have e2 := (O78.ints (by simp; omega)).lower (lo' := w.heap.size) (by omega)
   have e3 := (O17.lower (base' := w.heap.size) (by omega)).z
   have e4 := (O78.lower (base' := w.heap.size) (by omega)).z
   refine ⟨.slice (some ⟨gr19, 0, none⟩) s1.length cfv15u, .slice aa79 s1.length cc80, ?_, e1, ?_, e3, ?_, (fun _ hn h => by obtain ⟨g9, h7, h8, h9⟩ := O78.z.lt (by intro h0; have h1 := congrArg List.length h0; simp only [List.length_replicate, List.length_nil] at h1; omega); rw [h7] at h; have h6 : gr19 = g9 := Option.some.inj h; omega), Xw8⟩
   ·
    unfold tidyB; rw [if_pos hcl77]
   ·
    unfold tidyT; rw [if_pos hcl77, List.length_set]
    exact e2
   ·
    unfold tidyT; rw [if_pos hcl77, List.length_set]
    exact e4
  ·
   refine (cleared_1 b1 _ _ (s1.set D (L.length : Int)) (t1.set D 0) _ _ _ ((O17.ints (by first | omega | (simp only [List.length_set]; omega))).ext qXt) ((O18.ints (by first | omega | (simp only [List.length_set]; omega))).ext qXt) hcl77).mono ?_
   rintro e w7 ⟨rfl, xw7⟩
   have Lw7 : Ext w6 w7 := Ext.trans qXt xw7
   have Xw7 : Ext w w7 := Xw6.trans Lw7
   replace b10 := Lw7.cell b10
   replace b11 := Lw7.cell b11
   replace b12 := Lw7.cell b12
   replace b20 := Lw7.cell b20
   replace b21 := Lw7.cell b21
   replace b22 := Lw7.cell b22
   replace b23 := Lw7.cell b23
   replace b24 := Lw7.cell b24
   replace b30 := Lw7.cell b30
   replace b31 := Lw7.cell b31
   replace b32 := Lw7.cell b32
   replace f_b30 := Lw7.frz z_b3 f_b30
   replace f_b31 := Lw7.frz z_b3 f_b31
   replace f_b32 := Lw7.frz z_b3 f_b32
   replace b250 := Lw7.cell b250
   replace b251 := Lw7.cell b251
   replace b252 := Lw7.cell b252
   replace f_b250 := Lw7.frz z_b25 f_b250
   replace f_b251 := Lw7.frz z_b25 f_b251
   replace f_b252 := Lw7.frz z_b25 f_b252
   have z_b1 : w.heap.size < w7.heap.size := qB b10
   have z_b2 : w.heap.size + 1 < w7.heap.size := qB b20
   have z_b3 : w.heap.size + 1 + 1 < w7.heap.size := qB b30
   have z_b25 : w3.heap.size < w7.heap.size := qB b250
   replace i12 := i12.ext Lw7
   replace O17 := O17.ext Lw7
   replace O18 := O18.ext Lw7
   have s_w7 : w.heap.size ≤ w7.heap.size := Xw7.size
   have BL14_w7 : Ext w2 w7 := BL14_w6.trans Lw7
   clear xw7
   go_wp2_with fail
   generalize hW13 : (((w7.setCell ⟨w.heap.size + 1 + 1, 0, none⟩ (.int .i64 b1)).setCell ⟨w.heap.size + 1 + 1, 1, none⟩ (.slice (some ⟨gr19, 0, none⟩) s1.length cfv15u)).setCell ⟨w.heap.size + 1 + 1, 2, none⟩ (.slice (some ⟨gr20, 0, none⟩) t1.length cfv15v)) = w8 at *
   have Kw8 : Chg (w.heap.size + 1 + 1) (w.heap.size + 1 + 1 + 1) w7 w8 := by subst hW13; exact qCh
   have Xw8 : Ext w w8 := by subst hW13; exact qXt
   replace b10 := Kw8.cell (by omega) b10
   replace b11 := Kw8.cell (by omega) b11
   replace b12 := Kw8.cell (by omega) b12
   replace b20 := Kw8.cell (by omega) b20
   replace b21 := Kw8.cell (by omega) b21
   replace b22 := Kw8.cell (by omega) b22
   replace b23 := Kw8.cell (by omega) b23
   replace b24 := Kw8.cell (by omega) b24
   replace b30 : w8.cell? ⟨w.heap.size + 1 + 1, 0, none⟩ = some (.int .i64 b1) := by subst hW13; go_simp
   replace f_b30 : w8.frozen? ⟨w.heap.size + 1 + 1, 0, none⟩ = false := by subst hW13; first | (simp only [World.frozen?_setCell]; with_reducible assumption) | go_simp
   replace b31 : w8.cell? ⟨w.heap.size + 1 + 1, 1, none⟩ = some (.slice (some ⟨gr19, 0, none⟩) s1.length cfv15u) := by subst hW13; go_simp
   replace f_b31 : w8.frozen? ⟨w.heap.size + 1 + 1, 1, none⟩ = false := by subst hW13; first | (simp only [World.frozen?_setCell]; with_reducible assumption) | go_simp
   replace b32 : w8.cell? ⟨w.heap.size + 1 + 1, 2, none⟩ = some (.slice (some ⟨gr20, 0, none⟩) t1.length cfv15v) := by subst hW13; go_simp
   replace f_b32 : w8.frozen? ⟨w.heap.size + 1 + 1, 2, none⟩ = false := by subst hW13; first | (simp only [World.frozen?_setCell]; with_reducible assumption) | go_simp
   replace b250 := Kw8.cell (by omega) b250
   replace f_b250 := Kw8.frzO (by omega) z_b25 f_b250
   replace b251 := Kw8.cell (by omega) b251
   replace f_b251 := Kw8.frzO (by omega) z_b25 f_b251
   replace b252 := Kw8.cell (by omega) b252
   replace f_b252 := Kw8.frzO (by omega) z_b25 f_b252
   replace i12 := i12.chg Kw8 (by omega)
   replace O17 := O17.chgN Kw8 (by omega)
   replace O18 := O18.chgN Kw8 (by omega)
   clear Kw8
   have z_b1 : w.heap.size < w8.heap.size := qB b10
   have z_b2 : w.heap.size + 1 < w8.heap.size := qB b20
   have z_b3 : w.heap.size + 1 + 1 < w8.heap.size := qB b30
   have z_b25 : w3.heap.size < w8.heap.size := qB b250
   have s_w8 : w.heap.size ≤ w8.heap.size := Xw8.size
   clear hW13
   refine bodyPost_ret (v := .agg #[.int .i64 b1, .slice (some ⟨gr19, 0, none⟩) s1.length cfv15u, .slice (some ⟨gr20, 0, none⟩) t1.length cfv15v]) (by simp only [results, Try.results152]; go_simp) rfl ?_
   obtain ⟨hpB, hpT⟩ := cut_prog (b := b1) (e := toI v7 T B ht) hsm.out hDN (sliceB_in hsl.out).2.2.2 hL.out (rfl : t1.getD D 0 = t1.getD D 0)
   have qB := hpB (b1) (by left; omega)
   have qT := hpT (0) (by rw [if_neg (by omega)])
   rw [show idxS (s1.getD D 0) F T B hf ht = L by rw [hv7.out]; exact hL.out, qB, qT]
   have e1 := (O17.ints (by first | omega | (simp only [List.length_set]; omega))).lower (lo' := w.heap.size) (by omega)
   have e2 := (O18.ints (by first | omega | (simp only [List.length_set]; omega))).lower (lo' := w.heap.size) (by omega)
   have e3 := (O17.lower (base' := w.heap.size) (by omega)).z
   have e4 := (O18.lower (base' := w.heap.size) (by omega)).z
   refine ⟨.slice (some ⟨gr19, 0, none⟩) s1.length cfv15u, .slice (some ⟨gr20, 0, none⟩) t1.length cfv15v, ?_, e1, ?_, e3, ?_, (fun _ _ h => hggr19 (Option.some.inj h)), Xw8⟩
   ·
    unfold tidyB; rw [if_neg hcl77]
   ·
    unfold tidyT; rw [if_neg hcl77]
    exact e2
   ·
    unfold tidyT; rw [if_neg hcl77]
    exact e4


theorem sliceDim_t (b1 : Int) (u1 v1 : Value) (s1 t1 : List Int) (D : Nat) (F T B : Int) (hf ht : Bool) (CB : Int) (CS CT : List Int) (w : World) (l1 m1 : Nat) (h1 : Ints w l1 u1 s1) (k1 : Ints w m1 v1 t1) (hvv : viewB b1 s1 t1 = true) (hDN : D < s1.length) (hsl : sliceB F T B hf ht = true)
  (e1 : cutB b1 s1 t1 D (idxS (s1.getD D 0) F T B hf ht) = CB) (e2 : cutS s1 D (idxS (s1.getD D 0) F T B hf ht) = CS) (e3 : cutT s1 t1 D (idxS (s1.getD D 0) F T B hf ht) = CT) :
  Calls Try.prog 152 #[.agg #[.int .i64 b1, u1, v1], .int .i64 (D : Int), .agg #[.int .i64 F, .int .i64 T, .int .i64 B, .bool hf, .bool ht]] w (PView w CB CS CT) := by
 subst e1; subst e2; subst e3
 exact sliceDim_s b1 u1 v1 s1 t1 D F T B hf ht w l1 m1 h1 k1 hvv hDN hsl

set_option maxHeartbeats 3200000 in
theorem implSliceDim_s (b1 : Int) (u1 v1 : Value) (s1 t1 : List Int) (d F T B : Int) (hf ht : Bool) (w : World) (l1 m1 : Nat) (h1 : Ints w l1 u1 s1) (k1 : Ints w m1 v1 t1) :
  Calls Try.prog 105 #[.agg #[.int .i64 b1, u1, v1], .int .i64 d, .agg #[.int .i64 F, .int .i64 T, .int .i64 B, .bool hf, .bool ht]] w (PVB w (sliceV b1 s1 t1 d F T B hf ht)) := by
 obtain ⟨p0, c0, rfl⟩ := h1.form
 obtain ⟨p1, c1, rfl⟩ := k1.form
 go_enter Try.func105, Try.ntmps105
 go_wp2_with fail
 refine (hasDim_c b1 (.slice p0 s1.length c0) (.slice p1 t1.length c1) s1 t1 d _ _ _ (h1.ext qXt) (k1.ext qXt)).mono ?_
 rintro e w1 ⟨rfl, xw1⟩
 have Lw1 : Ext w w1 := Ext.trans qXt xw1
 have Xw1 : Ext w w1 := Lw1
 have b10 : w1.cell? ⟨w.heap.size, 0, none⟩ = some (.int .i64 b1) := xw1.cell qCl
 have b11 : w1.cell? ⟨w.heap.size, 1, none⟩ = some (.slice p0 s1.length c0) := xw1.cell qCl
 have b12 : w1.cell? ⟨w.heap.size, 2, none⟩ = some (.slice p1 t1.length c1) := xw1.cell qCl
 have b20 : w1.cell? ⟨w.heap.size + 1, 0, none⟩ = some (.int .i64 F) := xw1.cell qCl
 have b21 : w1.cell? ⟨w.heap.size + 1, 1, none⟩ = some (.int .i64 T) := xw1.cell qCl
 have b22 : w1.cell? ⟨w.heap.size + 1, 2, none⟩ = some (.int .i64 B) := xw1.cell qCl
 have b23 : w1.cell? ⟨w.heap.size + 1, 3, none⟩ = some (.bool hf) := xw1.cell qCl
 have b24 : w1.cell? ⟨w.heap.size + 1, 4, none⟩ = some (.bool ht) := xw1.cell qCl
 have b30 : w1.cell? ⟨w.heap.size + 1 + 1, 0, none⟩ = some (.int .i64 0) := xw1.cell qCl
 have b31 : w1.cell? ⟨w.heap.size + 1 + 1, 1, none⟩ = some (.slice none 0 0) := xw1.cell qCl
 have b32 : w1.cell? ⟨w.heap.size + 1 + 1, 2, none⟩ = some (.slice none 0 0) := xw1.cell qCl
 have f_b30 : w1.frozen? ⟨w.heap.size + 1 + 1, 0, none⟩ = false := xw1.frz (by simp <;> omega) qFz
 have f_b31 : w1.frozen? ⟨w.heap.size + 1 + 1, 1, none⟩ = false := xw1.frz (by simp <;> omega) qFz
 have f_b32 : w1.frozen? ⟨w.heap.size + 1 + 1, 2, none⟩ = false := xw1.frz (by simp <;> omega) qFz
 have z_b1 : w.heap.size < w1.heap.size := qB b10
 have z_b2 : w.heap.size + 1 < w1.heap.size := qB b20
 have z_b3 : w.heap.size + 1 + 1 < w1.heap.size := qB b30
 have s_w1 : w.heap.size ≤ w1.heap.size := Xw1.size
 clear xw1
 cases hB4 : dimB b1 s1 t1 d
 ·
  replace hB4 := Lib.hid hB4
  go_wp2_with fail
  generalize hW14 : (((w1.setCell ⟨w.heap.size + 1 + 1, 0, none⟩ (.int .i64 0)).setCell ⟨w.heap.size + 1 + 1, 1, none⟩ (.slice none 0 0)).setCell ⟨w.heap.size + 1 + 1, 2, none⟩ (.slice none 0 0)) = w2 at *
  have Kw2 : Chg (w.heap.size + 1 + 1) (w.heap.size + 1 + 1 + 1) w1 w2 := by subst hW14; exact qCh
  have Xw2 : Ext w w2 := by subst hW14; exact qXt
  replace b10 := Kw2.cell (by omega) b10
  replace b11 := Kw2.cell (by omega) b11
  replace b12 := Kw2.cell (by omega) b12
  replace b20 := Kw2.cell (by omega) b20
  replace b21 := Kw2.cell (by omega) b21
  replace b22 := Kw2.cell (by omega) b22
  replace b23 := Kw2.cell (by omega) b23
  replace b24 := Kw2.cell (by omega) b24
  replace b30 : w2.cell? ⟨w.heap.size + 1 + 1, 0, none⟩ = some (.int .i64 0) := by subst hW14; go_simp
  replace f_b30 : w2.frozen? ⟨w.heap.size + 1 + 1, 0, none⟩ = false := by subst hW14; first | (simp only [World.frozen?_setCell]; with_reducible assumption) | go_simp
  replace b31 : w2.cell? ⟨w.heap.size + 1 + 1, 1, none⟩ = some (.slice none 0 0) := by subst hW14; go_simp
  replace f_b31 : w2.frozen? ⟨w.heap.size + 1 + 1, 1, none⟩ = false := by subst hW14; first | (simp only [World.frozen?_setCell]; with_reducible assumption) | go_simp
  replace b32 : w2.cell? ⟨w.heap.size + 1 + 1, 2, none⟩ = some (.slice none 0 0) := by subst hW14; go_simp
  replace f_b32 : w2.frozen? ⟨w.heap.size + 1 + 1, 2, none⟩ = false := by subst hW14; first | (simp only [World.frozen?_setCell]; with_reducible assumption) | go_simp
  clear Kw2
  have z_b1 : w.heap.size < w2.heap.size := qB b10
  have z_b2 : w.heap.size + 1 < w2.heap.size := qB b20
  have z_b3 : w.heap.size + 1 + 1 < w2.heap.size := qB b30
  have s_w2 : w.heap.size ≤ w2.heap.size := Xw2.size
  clear hW14
  refine bodyPost_ret (v := .tuple #[.agg #[.int .i64 0, .slice none 0 0, .slice none 0 0], .bool false]) (by simp only [results, Try.results105]; go_simp) rfl ?_
  rw [show sliceV b1 s1 t1 d F T B hf ht = noV from slice_no0 hB4.out]
  exact PViewB.no (Xw2.trans qXt)
 ·
  replace hB4 := Lib.hid hB4
  obtain ⟨hvv, hd0, hd1⟩ := dim_in hB4.out
  obtain ⟨D, rfl⟩ : ∃ D : Nat, d = D := ⟨d.toNat, by omega⟩
  have hDN : D < s1.length := by omega
  obtain ⟨-, hts, -, ht60, -⟩ := viewB_in hvv
  have hs4 := view_small hvv
  have hs60 := Lib.hid hs4.2
  have hs4 := hs4.1
  have hDT : D < t1.length := by omega
  have ht4 : t1.length ≤ 4 := by omega
  have hdl4 : (delL s1 D).length ≤ 4 := by rw [delL_len _ _ hDN]; omega
  replace hts := Lib.hid hts
  replace ht60 := Lib.hid ht60
  replace hvv := Lib.hid hvv
  go_wp2_with fail
  refine (isSlice_c F T B hf ht _).mono ?_
  rintro e w2 ⟨rfl, xw2⟩
  have Lw2 : Ext w1 w2 := Ext.trans qXt xw2
  have Xw2 : Ext w w2 := Xw1.trans Lw2
  replace b10 := Lw2.cell b10
  replace b11 := Lw2.cell b11
  replace b12 := Lw2.cell b12
  replace b20 := Lw2.cell b20
  replace b21 := Lw2.cell b21
  replace b22 := Lw2.cell b22
  replace b23 := Lw2.cell b23
  replace b24 := Lw2.cell b24
  replace b30 := Lw2.cell b30
  replace b31 := Lw2.cell b31
  replace b32 := Lw2.cell b32
  replace f_b30 := Lw2.frz z_b3 f_b30
  replace f_b31 := Lw2.frz z_b3 f_b31
  replace f_b32 := Lw2.frz z_b3 f_b32
  have z_b1 : w.heap.size < w2.heap.size := qB b10
  have z_b2 : w.heap.size + 1 < w2.heap.size := qB b20
  have z_b3 : w.heap.size + 1 + 1 < w2.heap.size := qB b30
  have s_w2 : w.heap.size ≤ w2.heap.size := Xw2.size
  clear xw2
  cases hB5 : sliceB F T B hf ht
  ·
   replace hB5 := Lib.hid hB5
   go_wp2_with fail
   generalize hW15 : (((w2.setCell ⟨w.heap.size + 1 + 1, 0, none⟩ (.int .i64 0)).setCell ⟨w.heap.size + 1 + 1, 1, none⟩ (.slice none 0 0)).setCell ⟨w.heap.size + 1 + 1, 2, none⟩ (.slice none 0 0)) = w3 at *
   have Kw3 : Chg (w.heap.size + 1 + 1) (w.heap.size + 1 + 1 + 1) w2 w3 := by subst hW15; exact qCh
   have Xw3 : Ext w w3 := by subst hW15; exact qXt
   replace b10 := Kw3.cell (by omega) b10
   replace b11 := Kw3.cell (by omega) b11
   replace b12 := Kw3.cell (by omega) b12
   replace b20 := Kw3.cell (by omega) b20
   replace b21 := Kw3.cell (by omega) b21
   replace b22 := Kw3.cell (by omega) b22
   replace b23 := Kw3.cell (by omega) b23
   replace b24 := Kw3.cell (by omega) b24
   replace b30 : w3.cell? ⟨w.heap.size + 1 + 1, 0, none⟩ = some (.int .i64 0) := by subst hW15; go_simp
   replace f_b30 : w3.frozen? ⟨w.heap.size + 1 + 1, 0, none⟩ = false := by subst hW15; first | (simp only [World.frozen?_setCell]; with_reducible assumption) | go_simp
   replace b31 : w3.cell? ⟨w.heap.size + 1 + 1, 1, none⟩ = some (.slice none 0 0) := by subst hW15; go_simp
   replace f_b31 : w3.frozen? ⟨w.heap.size + 1 + 1, 1, none⟩ = false := by subst hW15; first | (simp only [World.frozen?_setCell]; with_reducible assumption) | go_simp
   replace b32 : w3.cell? ⟨w.heap.size + 1 + 1, 2, none⟩ = some (.slice none 0 0) := by subst hW15; go_simp
   replace f_b32 : w3.frozen? ⟨w.heap.size + 1 + 1, 2, none⟩ = false := by subst hW15; first | (simp only [World.frozen?_setCell]; with_reducible assumption) | go_simp
   clear Kw3
   have z_b1 : w.heap.size < w3.heap.size := qB b10
   have z_b2 : w.heap.size + 1 < w3.heap.size := qB b20
   have z_b3 : w.heap.size + 1 + 1 < w3.heap.size := qB b30
   have s_w3 : w.heap.size ≤ w3.heap.size := Xw3.size
   clear hW15
   refine bodyPost_ret (v := .tuple #[.agg #[.int .i64 0, .slice none 0 0, .slice none 0 0], .bool false]) (by simp only [results, Try.results105]; go_simp) rfl ?_
   rw [show sliceV b1 s1 t1 (D : Int) F T B hf ht = noV from slice_no1 hB5.out]
   exact PViewB.no (Xw3.trans qXt)
  ·
   replace hB5 := Lib.hid hB5
   obtain ⟨CB, hCB⟩ : ∃ x, cutB b1 s1 t1 D (idxS (s1.getD D 0) F T B hf ht) = x := ⟨_, rfl⟩
   obtain ⟨CS, hCS⟩ : ∃ x, cutS s1 D (idxS (s1.getD D 0) F T B hf ht) = x := ⟨_, rfl⟩
   obtain ⟨CT, hCT⟩ : ∃ x, cutT s1 t1 D (idxS (s1.getD D 0) F T B hf ht) = x := ⟨_, rfl⟩
   replace hCB := Lib.hid hCB
   replace hCS := Lib.hid hCS
   replace hCT := Lib.hid hCT
   go_wp2_with fail
   refine (sliceDim_t b1 _ _ s1 t1 D F T B hf ht CB CS CT _ _ _ (h1.ext (Xw2.trans qXt)) (k1.ext (Xw2.trans qXt)) hvv.out hDN hB5.out hCB.out hCS.out hCT.out).mono ?_
   rintro e w3 ⟨fv6u, fv6v, rfl, i7u, i7v, i7uz, i7vz, i7s, xw3⟩
   have Lw3 : Ext w2 w3 := Ext.trans qXt xw3
   have Xw3 : Ext w w3 := Xw2.trans Lw3
   replace b10 := Lw3.cell b10
   replace b11 := Lw3.cell b11
   replace b12 := Lw3.cell b12
   replace b20 := Lw3.cell b20
   replace b21 := Lw3.cell b21
   replace b22 := Lw3.cell b22
   replace b23 := Lw3.cell b23
   replace b24 := Lw3.cell b24
   replace b30 := Lw3.cell b30
   replace b31 := Lw3.cell b31
   replace b32 := Lw3.cell b32
   replace f_b30 := Lw3.frz z_b3 f_b30
   replace f_b31 := Lw3.frz z_b3 f_b31
   replace f_b32 := Lw3.frz z_b3 f_b32
   have z_b1 : w.heap.size < w3.heap.size := qB b10
   have z_b2 : w.heap.size + 1 < w3.heap.size := qB b20
   have z_b3 : w.heap.size + 1 + 1 < w3.heap.size := qB b30
   have s_w3 : w.heap.size ≤ w3.heap.size := Xw3.size
   clear xw3
   obtain ⟨afv6u, cfv6u, rfl⟩ := i7u.form
   obtain ⟨afv6v, cfv6v, rfl⟩ := i7v.form
   go_wp2_with fail
   generalize hW16 : (((w3.setCell ⟨w.heap.size + 1 + 1, 0, none⟩ (.int .i64 CB)).setCell ⟨w.heap.size + 1 + 1, 1, none⟩ (.slice afv6u CS.length cfv6u)).setCell ⟨w.heap.size + 1 + 1, 2, none⟩ (.slice afv6v CT.length cfv6v)) = w4 at *
   have Kw4 : Chg (w.heap.size + 1 + 1) (w.heap.size + 1 + 1 + 1) w3 w4 := by subst hW16; exact qCh
   have Xw4 : Ext w w4 := by subst hW16; exact qXt
   replace b10 := Kw4.cell (by omega) b10
   replace b11 := Kw4.cell (by omega) b11
   replace b12 := Kw4.cell (by omega) b12
   replace b20 := Kw4.cell (by omega) b20
   replace b21 := Kw4.cell (by omega) b21
   replace b22 := Kw4.cell (by omega) b22
   replace b23 := Kw4.cell (by omega) b23
   replace b24 := Kw4.cell (by omega) b24
   replace b30 : w4.cell? ⟨w.heap.size + 1 + 1, 0, none⟩ = some (.int .i64 CB) := by subst hW16; go_simp
   replace f_b30 : w4.frozen? ⟨w.heap.size + 1 + 1, 0, none⟩ = false := by subst hW16; first | (simp only [World.frozen?_setCell]; with_reducible assumption) | go_simp
   replace b31 : w4.cell? ⟨w.heap.size + 1 + 1, 1, none⟩ = some (.slice afv6u CS.length cfv6u) := by subst hW16; go_simp
   replace f_b31 : w4.frozen? ⟨w.heap.size + 1 + 1, 1, none⟩ = false := by subst hW16; first | (simp only [World.frozen?_setCell]; with_reducible assumption) | go_simp
   replace b32 : w4.cell? ⟨w.heap.size + 1 + 1, 2, none⟩ = some (.slice afv6v CT.length cfv6v) := by subst hW16; go_simp
   replace f_b32 : w4.frozen? ⟨w.heap.size + 1 + 1, 2, none⟩ = false := by subst hW16; first | (simp only [World.frozen?_setCell]; with_reducible assumption) | go_simp
   replace i7u := i7u.chg Kw4 (by omega)
   replace i7v := i7v.chg Kw4 (by omega)
   replace i7uz := i7uz.chg Kw4 (by omega)
   replace i7vz := i7vz.chg Kw4 (by omega)
   clear Kw4
   have z_b1 : w.heap.size < w4.heap.size := qB b10
   have z_b2 : w.heap.size + 1 < w4.heap.size := qB b20
   have z_b3 : w.heap.size + 1 + 1 < w4.heap.size := qB b30
   have s_w4 : w.heap.size ≤ w4.heap.size := Xw4.size
   clear hW16
   refine bodyPost_ret (v := .tuple #[.agg #[.int .i64 CB, .slice afv6u CS.length cfv6u, .slice afv6v CT.length cfv6v], .bool true]) (by simp only [results, Try.results105]; go_simp) rfl ?_
   rw [slice_yes hB4.out hB5.out, hCB.out, hCS.out, hCT.out]
   exact ⟨_, _, rfl, i7u.lower (by omega), i7v.lower (by omega), i7uz.lower (by omega), i7vz.lower (by omega), i7s, Xw4⟩


end Go.Proofs.Ytfbbnbpobojboaa
