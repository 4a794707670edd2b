/- Texts of these proofs put together: PureS, DelC, PureT, SliB, SliC, SliS, BufZ, DnA, DnB, NumA, PureU, PureE, PureF, LvS, LvR, PureG, PureK, PureN, PureO. No condition. -/
import Derived.Test.YtgklaobfikbiiaaM4
import Derived.Test.YtgklaobfikbiiaaM2
import Derived.Test.YtgklaobfikbiiaaM1
import Derived.Test.YtgklaobfikbiiaaM3
import Derived.Laws.Concat
set_option linter.unusedVariables false
set_option linter.unusedSimpArgs false
/- Plain laws: views without a dimension. -/
namespace Go.Proofs.Ytgklaobfikbiiaa
open Go.RowKit
set_option linter.unusedVariables false
set_option maxRecDepth 100000

theorem delL_mem {xs : List Int} {d : Nat} {x : Int} (h : x ∈ delL xs d) : x ∈ xs := by
  unfold delL at h
  rcases List.mem_append.1 h with h | h
  · exact List.mem_of_mem_take h
  · exact List.mem_of_mem_drop h
theorem delL_zero (x : Int) (xs : List Int) : delL (x :: xs) 0 = xs := by simp [delL]
theorem delL_succ (x : Int) (xs : List Int) (d : Nat) : delL (x :: xs) (d + 1) = x :: delL xs d := by simp [delL]
theorem del_small {s : List Int} (hs : Small s) (d : Nat) (hd : d < s.length) : Small (delL s d) :=
  ⟨by rw [delL_len s d hd]; have := hs.1; omega, fun e he => hs.2 e (delL_mem he)⟩
theorem del_prod : ∀ (s : List Int) (d : Nat), d < s.length → prodL s = s.getD d 0 * prodL (delL s d)
  | [], d, h => by simp at h
  | x :: s, 0, _ => by rw [delL_zero, prodL_cons]; simp
  | x :: s, d+1, h => by
    rw [delL_succ, prodL_cons, prodL_cons, del_prod s d (by simpa using h)]
    simp only [List.getD_cons_succ]
    rw [← Int.mul_assoc, ← Int.mul_assoc, Int.mul_comm x]
/-- cells with a number in a dimension -/
theorem dot_del : ∀ (r t : List Int) (d : Nat) (b x : Int), d ≤ r.length → d < t.length → r.length + 1 = t.length → dotC b (r.take d ++ x :: r.drop d) t = dotC (b + x * t.getD d 0) r (delL t d)
  | r, y :: t, 0, b, x, _, _, _ => by
    rw [delL_zero]; simp only [List.take_zero, List.nil_append, List.drop_zero, dotC, List.getD_cons_zero]
    rw [dotC_add]; omega
  | z :: r, y :: t, d+1, b, x, h1, h2, h3 => by
    rw [delL_succ]; simp only [List.take_succ_cons, List.cons_append, List.drop_succ_cons, dotC, List.getD_cons_succ]
    rw [dot_del r t d b x (by simpa using h1) (by simpa using h2) (by simpa using h3)]
  | [], _ :: _, d+1, _, _, h, _, _ => by simp at h
  | _, [], _, _, _, _, h, _ => by simp at h
theorem ix_ins : ∀ (s r : List Int) (d : Nat) (x : Int), d < s.length → IxOf (delL s d) r → 0 ≤ x → x < s.getD d 0 → IxOf s (r.take d ++ x :: r.drop d)
  | e :: s, r, 0, x, _, h, h1, h2 => by
    rw [delL_zero] at h; simp only [List.take_zero, List.nil_append, List.drop_zero]
    exact ⟨⟨h1, by simpa using h2⟩, h⟩
  | e :: s, [], d+1, x, _, h, _, _ => by rw [delL_succ] at h; exact h.elim
  | e :: s, z :: r, d+1, x, hd, h, h1, h2 => by
    rw [delL_succ] at h
    simp only [List.take_succ_cons, List.cons_append, List.drop_succ_cons]
    exact ⟨h.1, ix_ins s r d x (by simpa using hd) h.2 h1 (by simpa using h2)⟩
  | [], _, _, _, hd, _, _, _ => by simp at hd
/-- the view of the indices with a number in a dimension -/
def pickV (b : Int) (s t : List Int) (d i : Int) : VBool :=
  if dimB b s t d && (decide (-(s.getD d.toNat 0) ≤ i) && decide (i < s.getD d.toNat 0)) then
    (tidyB (b + (if i < 0 then i + s.getD d.toNat 0 else i) * t.getD d.toNat 0) (delL s d.toNat), delL s d.toNat, tidyT (delL s d.toNat) (delL t d.toNat), true) else noV
theorem pick_view {b : Int} {s t : List Int} {d : Nat} {j : Int} (h : viewB b s t = true) (hd : d < s.length) (h1 : 0 ≤ j) (h2 : j < s.getD d 0) :
    viewB (tidyB (b + j * t.getD d 0) (delL s d)) (delL s d) (tidyT (delL s d) (delL t d)) = true ∧
    offsL (tidyB (b + j * t.getD d 0) (delL s d)) (delL s d) (tidyT (delL s d) (delL t d)) = (if countL (delL s d) = 0 then [] else offC (b + j * t.getD d 0) (delL s d) (delL t d)) := by
  obtain ⟨g1, g2, g3, g4, g5⟩ := viewB_in h
  have hs := view_small h
  have hs' := del_small hs d hd
  have hc := shapeB_in g1
  have hl : (delL t d).length = (delL s d).length := by rw [delL_len _ _ (by omega), delL_len _ _ hd]; omega
  have ht := g4 (t.getD d 0) (getD_mem (by omega))
  have he := hs.2 (s.getD d 0) (getD_mem hd)
  have hp := del_prod s d hd
  have hcs := hs.count
  have hcs' := hs'.count
  by_cases hz : countL (delL s d) = 0
  · have e1 : tidyB (b + j * t.getD d 0) (delL s d) = 0 := by unfold tidyB; rw [if_pos hz]
    have e2 : tidyT (delL s d) (delL t d) = List.replicate (delL s d).length 0 := by unfold tidyT; rw [if_pos hz]
    have ho : ∀ (q : Int) (u : List Int), offsL q (delL s d) u = [] := fun q u => List.eq_nil_of_length_eq_zero (by rw [offs_count, hz]; rfl)
    rw [e1, e2, ho, if_pos hz]
    refine ⟨viewB_mk (shapeB_mk hs' (by omega)) (by simp) (by omega) (fun x hx => by rw [List.eq_of_mem_replicate hx]; omega) (fun x hx => by rw [ho] at hx; cases hx), rfl⟩
  · have e1 : tidyB (b + j * t.getD d 0) (delL s d) = b + j * t.getD d 0 := by unfold tidyB; rw [if_neg hz]
    have e2 : tidyT (delL s d) (delL t d) = delL t d := by unfold tidyT; rw [if_neg hz]
    have hall := hcs'.2.2.2 (by omega)
    have hle : countL (delL s d) ≤ countL s := by
      rw [hcs.1, hp, hcs'.1]
      have : prodL (delL s d) * 1 ≤ prodL (delL s d) * s.getD d 0 := Int.mul_le_mul_of_nonneg_left (by omega) (by rw [← hcs'.1]; omega)
      rw [Int.mul_comm (s.getD d 0)]; omega
    have hjb := mul_bd h1 (show j ≤ 60 by omega) (show (0 : Int) ≤ 60 by omega) ht.1 ht.2
    have hm : Mild (b + j * t.getD d 0) (delL t d) := ⟨by omega, fun x hx => by have := g4 x (delL_mem hx); omega⟩
    have ho : offsL (b + j * t.getD d 0) (delL s d) (delL t d) = offC (b + j * t.getD d 0) (delL s d) (delL t d) := offs_C hs' hm
    have hin : ∀ x ∈ offC (b + j * t.getD d 0) (delL s d) (delL t d), 0 ≤ x ∧ x ≤ 59 := by
      intro x hx
      unfold offC at hx
      obtain ⟨r, hr, rfl⟩ := List.mem_map.1 hx
      rw [mem_idxR] at hr
      have hrl := hr.len
      rw [delL_len s d hd] at hrl
      rw [← dot_del r t d b j (by omega) (by omega) (by omega)]
      apply g5
      rw [view_C h]
      unfold offC
      exact List.mem_map.2 ⟨_, (mem_idxR _ _).2 (ix_ins s r d j hd hr h1 h2), rfl⟩
    rw [e1, e2, ho, if_neg hz]
    have hb : 0 ≤ b + j * t.getD d 0 ∧ b + j * t.getD d 0 ≤ 60 := by
      have := hin _ (off_zero (t := delL t d) _ hall); omega
    exact ⟨viewB_mk (shapeB_mk hs' (by omega)) hl hb (fun x hx => g4 x (delL_mem hx)) (by rw [ho]; exact hin), rfl⟩

end Go.Proofs.Ytgklaobfikbiiaa

/- Walks: PickDim of the program. -/
namespace Go.Proofs.Ytgklaobfikbiiaa
open Go.RowKit
set_option linter.unusedVariables false
set_option maxRecDepth 100000


def PVX (w : World) (x : VBool) (e : Ending) (w' : World) : Prop := PVWB w x.1 x.2.1 x.2.2.1 x.2.2.2 e w'
theorem pvx_eq {w w0 : World} {x : VBool} {B : Int} {S T : List Int} {o : Bool} {f : Nat} {args : Array Value} (he : x = (B, S, T, o)) (h : Calls Try.prog f args w (PVX w0 x)) : Calls Try.prog f args w (PVWB w0 B S T o) := by subst he; exact h
theorem dim_in {b : Int} {s t : List Int} {d : Int} (h : dimB b s t d = true) : viewB b s t = true ∧ 0 ≤ d ∧ d < s.length := by
  unfold dimB inB at h
  simp only [Bool.and_eq_true, decide_eq_true_eq] at h
  exact ⟨h.1, by omega, by omega⟩
theorem pick_no0 {b : Int} {s t : List Int} {d i : Int} (h : dimB b s t d = false) : pickV b s t d i = noV := by unfold pickV; rw [h]; rfl
theorem pick_no1 {b : Int} {s t : List Int} {D : Nat} {i e : Int} (he : s.getD D 0 = e) (h : i < -e ∨ e ≤ i) : pickV b s t (D : Int) i = noV := by
  unfold pickV
  rw [Int.toNat_natCast, he, if_neg (by simp only [Bool.and_eq_true, decide_eq_true_eq]; omega)]
theorem pick_yes {b : Int} {s t : List Int} {D : Nat} {i e x j : Int} (h : dimB b s t (D : Int) = true) (he : s.getD D 0 = e) (hx : t.getD D 0 = x) (hj : j = if i < 0 then i + e else i) (h1 : 0 ≤ j) (h2 : j < e) :
    pickV b s t (D : Int) i = (tidyB (b + j * x) (delL s D), delL s D, tidyT (delL s D) (delL t D), true) := by
  unfold pickV
  rw [Int.toNat_natCast, he, hx, h, if_pos (by simp only [Bool.true_and, Bool.and_eq_true, decide_eq_true_eq]; split at hj <;> omega), ← hj]

end Go.Proofs.Ytgklaobfikbiiaa

/- Plain laws: what a slice takes of a dimension, as the program reckons it. -/
namespace Go.Proofs.Ytgklaobfikbiiaa
open Go.RowKit
set_option linter.unusedVariables false
set_option maxRecDepth 100000

theorem numL_one {a b s : Int} (hn : cntL a b s = 1) : numL a b s = [a] := by unfold numL; rw [hn]; simp
theorem slice_first {a b q : Int} {L : List Int} (hq : q ≠ 0) (hL : numL a b q = L) : (L.length ≠ 0 → (normL L).1 = L.getD 0 0) ∧ (2 ≤ L.length → (normL L).2.2 = L.getD 1 0 - L.getD 0 0) := by
  subst hL
  have h := norm_two (a := a) (b := b) hq
  rw [numL_len] at h ⊢
  refine ⟨fun hn => ?_, fun hn => ?_⟩
  · rw [h.1 hn]
    match hc : cntL a b q with
    | 0 => exact absurd hc hn
    | 1 => rw [numL_one hc]; rfl
    | m + 2 => rw [numL_two hc]; rfl
  · rw [h.2.2 hn]
    match hc : cntL a b q with
    | 0 => omega
    | 1 => omega
    | m + 2 => rw [numL_two hc]; simp; omega
theorem count_zero_mem {xs : List Int} (hs : Small xs) (h : (0 : Int) ∈ xs) : countL xs = 0 := by
  have hc := hs.count
  by_cases h0 : countL xs = 0
  · exact h0
  · have := hc.2.2.2 (by omega) 0 h; omega
/-- base and strides that the program reckons, ahead of 'cleared' -/
theorem cut_prog {b : Int} {s t : List Int} {d : Nat} {a e q x : Int} {L : List Int} (hs : Small s) (hd : d < s.length) (hq : q ≠ 0) (hL : numL a e q = L) (hx : t.getD d 0 = x) :
    (∀ B : Int, (L.length = 0 ∨ B = b + x * L.getD 0 0) → cutB b s t d L = tidyB B (s.set d L.length)) ∧
    (∀ X : Int, (if 2 ≤ L.length then X = x * (L.getD 1 0 - L.getD 0 0) else X = 0) → cutT s t d L = tidyT (s.set d L.length) (t.set d X)) := by
  obtain ⟨h1, h2⟩ := slice_first hq hL
  have hz : L.length = 0 → countL (s.set d L.length) = 0 := fun h => by
    rw [h]
    exact count_zero_mem (small_set hs d (by omega)) (List.mem_iff_getElem.2 ⟨d, by simpa using hd, by simp⟩)
  refine ⟨fun B hB => ?_, fun X hX => ?_⟩
  · unfold cutB tidyB
    split
    · rfl
    · rename_i hc
      by_cases hl : L.length = 0
      · exact absurd (hz hl) hc
      · rcases hB with hB | hB
        · exact absurd hB hl
        · rw [hx, hB, h1 hl, Int.mul_comm]
  · unfold cutT
    congr 2
    by_cases hl : 2 ≤ L.length
    · rw [if_neg (by omega), hx, h2 hl]; rw [if_pos hl] at hX; rw [hX, Int.mul_comm]
    · rw [if_pos (by omega)]; rw [if_neg hl] at hX; exact hX.symm
end Go.Proofs.Ytgklaobfikbiiaa

/- Walks: sliceDim of the program. -/
namespace Go.Proofs.Ytgklaobfikbiiaa
open Go.RowKit
set_option linter.unusedVariables false
set_option maxRecDepth 100000


theorem mul_bd2s {x y : Int} (h1 : -60 ≤ x) (h2 : x ≤ 60) (h3 : -60 ≤ y) (h4 : y ≤ 60) : -3600 ≤ x * y ∧ x * y ≤ 3600 := by
  by_cases h : 0 ≤ y
  · have := mul_bd (x := y) (t := x) h h4 (show (0 : Int) ≤ 60 by omega) h1 h2
    rw [Int.mul_comm y x] at this; omega
  · have := mul_bd (x := -y) (t := x) (by omega) (by omega) (show (0 : Int) ≤ 60 by omega) h1 h2
    rw [Int.neg_mul, Int.mul_comm y x] at this; omega

end Go.Proofs.Ytgklaobfikbiiaa

/- Walks: SliceDim of the program. -/
namespace Go.Proofs.Ytgklaobfikbiiaa
open Go.RowKit
set_option linter.unusedVariables false
set_option maxRecDepth 100000


theorem slice_no0 {b : Int} {s t : List Int} {d F T B : Int} {hf ht : Bool} (h : dimB b s t d = false) : sliceV b s t d F T B hf ht = noV := by
  unfold dimB at h
  unfold sliceV
  rw [if_neg]
  intro h2
  simp only [Bool.and_eq_true] at h2
  rw [h2.1, h2.2.1] at h; cases h
theorem slice_no1 {b : Int} {s t : List Int} {d F T B : Int} {hf ht : Bool} (h : sliceB F T B hf ht = false) : sliceV b s t d F T B hf ht = noV := by
  unfold sliceV; rw [h, Bool.and_false, Bool.and_false]; rfl
theorem slice_yes {b : Int} {s t : List Int} {D : Nat} {F T B : Int} {hf ht : Bool} (h : dimB b s t (D : Int) = true) (h2 : sliceB F T B hf ht = true) :
    sliceV b s t (D : Int) F T B hf ht = (cutB b s t D (idxS (s.getD D 0) F T B hf ht), cutS s D (idxS (s.getD D 0) F T B hf ht), cutT s t D (idxS (s.getD D 0) F T B hf ht), true) := by
  unfold dimB at h
  rw [Bool.and_eq_true] at h
  unfold sliceV
  rw [if_pos (by rw [h.1, h.2, h2]; rfl), Int.toNat_natCast]

end Go.Proofs.Ytgklaobfikbiiaa

/- Walks: SliceDim of the program, in rows of its own. -/
namespace Go.Proofs.Ytgklaobfikbiiaa
open Go.RowKit
set_option linter.unusedVariables false
set_option maxRecDepth 100000

end Go.Proofs.Ytgklaobfikbiiaa

/- Walks: ExportPart of both. -/
namespace Go.Proofs.Ytgklaobfikbiiaa
open Go.RowKit
set_option linter.unusedVariables false
set_option maxRecDepth 100000

set_option maxHeartbeats 6400000 in
theorem specExportPart_c (cells : List Int) (es : List Exp) (cv ev : Value) (i d F T B : Int) (hf ht : Bool) (w : World) (l1 l2 : Nat) (h1 : Ints w l1 cv cells) (h2 : Exps w l2 ev es) :
  Calls Try.prog 87 #[.agg #[cv, ev], .int .i64 i, .int .i64 d, .agg #[.int .i64 F, .int .i64 T, .int .i64 B, .bool hf, .bool ht]] w (PBX w (parA cells es i d F T B hf ht)) := by
 obtain ⟨p0, c0, rfl⟩ := h1.form
 obtain ⟨p1, c1, rfl⟩ := h2.form
 have he1 := h2.len
 have hc1 := h1.len
 go_enter Try.func87, Try.ntmps87
 go_wp2_with fail
 refine (validBuffer_c cells es (.slice p0 cells.length c0) (.slice p1 es.length c1) _ _ _ (h1.ext qXt) (h2.ext qXt)).mono ?_
 rintro e w1 ⟨rfl, xw1⟩
 have Lw1 : Ext w w1 := Ext.trans qXt xw1
 have Xw1 : Ext w w1 := Lw1
 have b10 : w1.cell? ⟨w.heap.size, 0, none⟩ = some (.slice p0 cells.length c0) := xw1.cell qCl
 have b11 : w1.cell? ⟨w.heap.size, 1, none⟩ = some (.slice p1 es.length c1) := xw1.cell qCl
 have b20 : w1.cell? ⟨w.heap.size + 1, 0, none⟩ = some (.int .i64 F) := xw1.cell qCl
 have b21 : w1.cell? ⟨w.heap.size + 1, 1, none⟩ = some (.int .i64 T) := xw1.cell qCl
 have b22 : w1.cell? ⟨w.heap.size + 1, 2, none⟩ = some (.int .i64 B) := xw1.cell qCl
 have b23 : w1.cell? ⟨w.heap.size + 1, 3, none⟩ = some (.bool hf) := xw1.cell qCl
 have b24 : w1.cell? ⟨w.heap.size + 1, 4, none⟩ = some (.bool ht) := xw1.cell qCl
 have b30 : w1.cell? ⟨w.heap.size + 1 + 1, 0, none⟩ = some (.slice none 0 0) := xw1.cell qCl
 have b31 : w1.cell? ⟨w.heap.size + 1 + 1, 1, none⟩ = some (.slice none 0 0) := xw1.cell qCl
 have f_b30 : w1.frozen? ⟨w.heap.size + 1 + 1, 0, none⟩ = false := xw1.frz (by simp <;> omega) qFz
 have f_b31 : w1.frozen? ⟨w.heap.size + 1 + 1, 1, none⟩ = false := xw1.frz (by simp <;> omega) qFz
 have z_b1 : w.heap.size < w1.heap.size := qB b10
 have z_b2 : w.heap.size + 1 < w1.heap.size := qB b20
 have z_b3 : w.heap.size + 1 + 1 < w1.heap.size := qB b30
 have s_w1 : w.heap.size ≤ w1.heap.size := Xw1.size
 clear xw1
 cases hB4 : bufB cells es
 ·
  replace hB4 := Lib.hid hB4
  go_wp2_with fail
  generalize hW1 : ((w1.setCell ⟨w.heap.size + 1 + 1, 0, none⟩ (.slice none 0 0)).setCell ⟨w.heap.size + 1 + 1, 1, none⟩ (.slice none 0 0)) = w2 at *
  have Kw2 : Chg (w.heap.size + 1 + 1) (w.heap.size + 1 + 1 + 1) w1 w2 := by subst hW1; exact qCh
  have Xw2 : Ext w w2 := by subst hW1; exact qXt
  replace b10 := Kw2.cell (by omega) b10
  replace b11 := Kw2.cell (by omega) b11
  replace b20 := Kw2.cell (by omega) b20
  replace b21 := Kw2.cell (by omega) b21
  replace b22 := Kw2.cell (by omega) b22
  replace b23 := Kw2.cell (by omega) b23
  replace b24 := Kw2.cell (by omega) b24
  replace b30 : w2.cell? ⟨w.heap.size + 1 + 1, 0, none⟩ = some (.slice none 0 0) := by subst hW1; go_simp
  replace f_b30 : w2.frozen? ⟨w.heap.size + 1 + 1, 0, none⟩ = false := by subst hW1; first | (simp only [World.frozen?_setCell]; with_reducible assumption) | go_simp
  replace b31 : w2.cell? ⟨w.heap.size + 1 + 1, 1, none⟩ = some (.slice none 0 0) := by subst hW1; go_simp
  replace f_b31 : w2.frozen? ⟨w.heap.size + 1 + 1, 1, none⟩ = false := by subst hW1; first | (simp only [World.frozen?_setCell]; with_reducible assumption) | go_simp
  clear Kw2
  have z_b1 : w.heap.size < w2.heap.size := qB b10
  have z_b2 : w.heap.size + 1 < w2.heap.size := qB b20
  have z_b3 : w.heap.size + 1 + 1 < w2.heap.size := qB b30
  have s_w2 : w.heap.size ≤ w2.heap.size := Xw2.size
  clear hW1
  refine bodyPost_ret (v := .tuple #[.agg #[.slice none 0 0, .slice none 0 0], .bool false]) (by simp only [results, Try.results87]; go_simp) rfl ?_
  exact PBX.no (by unfold parA; rw [(show (bufB cells es && opB es i) = false by rw [hB4.out]; rfl), Bool.false_and, Bool.false_and]; rfl) (Xw2.trans qXt)
 ·
  replace hB4 := Lib.hid hB4
  have hbb : Hid (bufB cells es = true) := Lib.hid hB4.out
  go_wp2_with fail
  refine (specIsOpen_c cells es (.slice p0 cells.length c0) (.slice p1 es.length c1) i _ _ _ (h1.ext (Xw1.trans qXt)) (h2.ext (Xw1.trans qXt))).mono ?_
  rintro e w2 ⟨rfl, xw2⟩
  have Lw2 : Ext w1 w2 := Ext.trans qXt xw2
  have Xw2 : Ext w w2 := Xw1.trans Lw2
  replace b10 := Lw2.cell b10
  replace b11 := Lw2.cell b11
  replace b20 := Lw2.cell b20
  replace b21 := Lw2.cell b21
  replace b22 := Lw2.cell b22
  replace b23 := Lw2.cell b23
  replace b24 := Lw2.cell b24
  replace b30 := Lw2.cell b30
  replace b31 := Lw2.cell b31
  replace f_b30 := Lw2.frz z_b3 f_b30
  replace f_b31 := Lw2.frz z_b3 f_b31
  have z_b1 : w.heap.size < w2.heap.size := qB b10
  have z_b2 : w.heap.size + 1 < w2.heap.size := qB b20
  have z_b3 : w.heap.size + 1 + 1 < w2.heap.size := qB b30
  have s_w2 : w.heap.size ≤ w2.heap.size := Xw2.size
  clear xw2
  cases hB5 : opB es i
  ·
   replace hB5 := Lib.hid hB5
   go_wp2_with fail
   generalize hW2 : ((w2.setCell ⟨w.heap.size + 1 + 1, 0, none⟩ (.slice none 0 0)).setCell ⟨w.heap.size + 1 + 1, 1, none⟩ (.slice none 0 0)) = w3 at *
   have Kw3 : Chg (w.heap.size + 1 + 1) (w.heap.size + 1 + 1 + 1) w2 w3 := by subst hW2; exact qCh
   have Xw3 : Ext w w3 := by subst hW2; exact qXt
   replace b10 := Kw3.cell (by omega) b10
   replace b11 := Kw3.cell (by omega) b11
   replace b20 := Kw3.cell (by omega) b20
   replace b21 := Kw3.cell (by omega) b21
   replace b22 := Kw3.cell (by omega) b22
   replace b23 := Kw3.cell (by omega) b23
   replace b24 := Kw3.cell (by omega) b24
   replace b30 : w3.cell? ⟨w.heap.size + 1 + 1, 0, none⟩ = some (.slice none 0 0) := by subst hW2; go_simp
   replace f_b30 : w3.frozen? ⟨w.heap.size + 1 + 1, 0, none⟩ = false := by subst hW2; first | (simp only [World.frozen?_setCell]; with_reducible assumption) | go_simp
   replace b31 : w3.cell? ⟨w.heap.size + 1 + 1, 1, none⟩ = some (.slice none 0 0) := by subst hW2; go_simp
   replace f_b31 : w3.frozen? ⟨w.heap.size + 1 + 1, 1, none⟩ = false := by subst hW2; first | (simp only [World.frozen?_setCell]; with_reducible assumption) | go_simp
   clear Kw3
   have z_b1 : w.heap.size < w3.heap.size := qB b10
   have z_b2 : w.heap.size + 1 < w3.heap.size := qB b20
   have z_b3 : w.heap.size + 1 + 1 < w3.heap.size := qB b30
   have s_w3 : w.heap.size ≤ w3.heap.size := Xw3.size
   clear hW2
   refine bodyPost_ret (v := .tuple #[.agg #[.slice none 0 0, .slice none 0 0], .bool false]) (by simp only [results, Try.results87]; go_simp) rfl ?_
   exact PBX.no (by unfold parA; rw [(show (bufB cells es && opB es i) = false by rw [hB5.out, Bool.and_false]), Bool.false_and, Bool.false_and]; rfl) (Xw3.trans qXt)
  ·
   replace hB5 := Lib.hid hB5
   have hop : Hid (opB es i = true) := Lib.hid hB5.out
   obtain ⟨hi0, hi1, hi2⟩ := opB_in hop.out
   obtain ⟨k, rfl⟩ : ∃ k : Nat, i = k := ⟨i.toNat, by omega⟩
   have hlt : k < es.length := by omega
   have hesne : Hid (es ≠ []) := Lib.hid (fun h => by rw [h] at hlt; exact absurd hlt (by simp))
   replace hi2 := Lib.hid hi2
   by_cases hc6 : (es.length : Int) = (8 : Int)
   ·
    have hc6e : ((es.length : Int) == (8 : Int)) = true := by simpa using hc6
    have hc6n : ((es.length : Int) != (8 : Int)) = false := by simpa using hc6
    replace hc6 := Lib.hid hc6
    go_wp2_with fail
    generalize hW3 : ((w2.setCell ⟨w.heap.size + 1 + 1, 0, none⟩ (.slice none 0 0)).setCell ⟨w.heap.size + 1 + 1, 1, none⟩ (.slice none 0 0)) = w3 at *
    have Kw3 : Chg (w.heap.size + 1 + 1) (w.heap.size + 1 + 1 + 1) w2 w3 := by subst hW3; exact qCh
    have Xw3 : Ext w w3 := by subst hW3; exact qXt
    replace b10 := Kw3.cell (by omega) b10
    replace b11 := Kw3.cell (by omega) b11
    replace b20 := Kw3.cell (by omega) b20
    replace b21 := Kw3.cell (by omega) b21
    replace b22 := Kw3.cell (by omega) b22
    replace b23 := Kw3.cell (by omega) b23
    replace b24 := Kw3.cell (by omega) b24
    replace b30 : w3.cell? ⟨w.heap.size + 1 + 1, 0, none⟩ = some (.slice none 0 0) := by subst hW3; go_simp
    replace f_b30 : w3.frozen? ⟨w.heap.size + 1 + 1, 0, none⟩ = false := by subst hW3; first | (simp only [World.frozen?_setCell]; with_reducible assumption) | go_simp
    replace b31 : w3.cell? ⟨w.heap.size + 1 + 1, 1, none⟩ = some (.slice none 0 0) := by subst hW3; go_simp
    replace f_b31 : w3.frozen? ⟨w.heap.size + 1 + 1, 1, none⟩ = false := by subst hW3; first | (simp only [World.frozen?_setCell]; with_reducible assumption) | go_simp
    clear Kw3
    have z_b1 : w.heap.size < w3.heap.size := qB b10
    have z_b2 : w.heap.size + 1 < w3.heap.size := qB b20
    have z_b3 : w.heap.size + 1 + 1 < w3.heap.size := qB b30
    have s_w3 : w.heap.size ≤ w3.heap.size := Xw3.size
    clear hW3
    refine bodyPost_ret (v := .tuple #[.agg #[.slice none 0 0, .slice none 0 0], .bool false]) (by simp only [results, Try.results87]; go_simp) rfl ?_
    exact PBX.no (by unfold parA; rw [decide_eq_false (show ¬ es.length < 8 from (by have h7 := hc6.out; omega)), Bool.and_false, Bool.false_and]; rfl) (Xw3.trans qXt)
   ·
    have hc6e : ((es.length : Int) == (8 : Int)) = false := by simpa using hc6
    have hc6n : ((es.length : Int) != (8 : Int)) = true := by simpa using hc6
    replace hc6 := Lib.hid hc6
    go_wp2_with fail
    have hN_x7 : k < es.length := hlt
    have hI_x7 : (k : Int) < (es.length : Int) := by omega
    obtain ⟨bl20, ol21, u14, c15, u16, c17, rfl, x70, x71, x72, x73, x74, i18, i19⟩ := h2.at k hN_x7
    obtain ⟨X13, hX13⟩ : ∃ x, expAt es k = x := ⟨_, rfl⟩
    rw [hX13] at x70 x71 x72 x73 x74 i18 i19
    obtain ⟨P8, B9, S10, T11, O12⟩ := X13
    dsimp only at x70 x71 x72 x73 x74 i18 i19
    replace hX13 := Lib.hid hX13
    have hLS10 := i18.len
    have hLT11 := i19.len
    have y_x7 : bl20 < w.heap.size := qB x70
    replace x70 := Xw2.cell x70
    replace x71 := Xw2.cell x71
    replace x72 := Xw2.cell x72
    replace x73 := Xw2.cell x73
    replace x74 := Xw2.cell x74
    have z_x7 : bl20 < w2.heap.size := qB x70
    have h88 := (bufB_in hbb.out).2.2.1
    obtain ⟨PB, PS, PT, PO, hP⟩ : ∃ PB PS PT PO, sliceV B9 S10 T11 d F T B hf ht = (PB, PS, PT, PO) := ⟨_, _, _, _, rfl⟩
    have hpl : PS.length ≤ 4 ∧ PT.length ≤ 4 := by have h7 := sliceV_fit B9 S10 T11 d F T B hf ht; rw [hP] at h7; exact ⟨h7.2, by have h8 := h7.1; have h9 := h7.2; dsimp only at h8 h9; omega⟩
    obtain ⟨hpl1, hpl2⟩ := hpl
    replace hP := Lib.hid hP
    cases PO
    ·
     go_wp2_with fail
     go_cut [10, 11] (fun s10 s11 wx => ∃ (g : Nat) (afv22u : Option Addr) (cfv22u : Nat) (afv22v : Option Addr) (cfv22v : Nat), s10 = .pointer (some ⟨g, 0, none⟩) ∧ s11 = .bool false ∧ Ext w2 wx ∧ w2.heap.size ≤ g ∧ wx.cell? ⟨g, 0, none⟩ = some (.int .i64 PB) ∧ wx.cell? ⟨g, 1, none⟩ = some (.slice afv22u PS.length cfv22u) ∧ wx.cell? ⟨g, 2, none⟩ = some (.slice afv22v PT.length cfv22v) ∧ wx.frozen? ⟨g, 0, none⟩ = false ∧ wx.frozen? ⟨g, 1, none⟩ = false ∧ wx.frozen? ⟨g, 2, none⟩ = false ∧ Ints wx w2.heap.size (.slice afv22u PS.length cfv22u) PS ∧ Ints wx w2.heap.size (.slice afv22v PT.length cfv22v) PT)
     case first =>
      have BD3 : Ext w2 w2 := Ext.refl _
      refine wp_region_held_drew (S := fun w' => w'.cell? ⟨w.heap.size, 0, none⟩ = some (.slice p0 cells.length c0) ∧ w'.cell? ⟨w.heap.size, 1, none⟩ = some (.slice (some ⟨bl20, ol21, none⟩) es.length c1) ∧ w'.cell? ⟨w.heap.size + 1, 0, none⟩ = some (.int .i64 F) ∧ w'.cell? ⟨w.heap.size + 1, 1, none⟩ = some (.int .i64 T) ∧ w'.cell? ⟨w.heap.size + 1, 2, none⟩ = some (.int .i64 B) ∧ w'.cell? ⟨w.heap.size + 1, 3, none⟩ = some (.bool hf) ∧ w'.cell? ⟨w.heap.size + 1, 4, none⟩ = some (.bool ht) ∧ w'.cell? ⟨w.heap.size + 1 + 1, 0, none⟩ = some (.slice none 0 0) ∧ w'.cell? ⟨w.heap.size + 1 + 1, 1, none⟩ = some (.slice none 0 0) ∧ w'.cell? ⟨bl20, ol21 + k * 5, none⟩ = some (.int .i64 P8) ∧ w'.cell? ⟨bl20, ol21 + k * 5 + 1, none⟩ = some (.int .i64 B9) ∧ w'.cell? ⟨bl20, ol21 + k * 5 + 2, none⟩ = some (.slice u14 S10.length c15) ∧ w'.cell? ⟨bl20, ol21 + k * 5 + 3, none⟩ = some (.slice u16 T11.length c17) ∧ w'.cell? ⟨bl20, ol21 + k * 5 + 4, none⟩ = some (.bool O12)) qKr ⟨b10, b11, b20, b21, b22, b23, b24, b30, b31, x70, x71, x72, x73, x74⟩ (fun hHeld => ?_)
      refine qHk (v := ?_) 0 rfl (.inl ⟨by rfl, ?_⟩) ?_
      rotate_left
      ·
       (intro w hSw; (try dsimp only at hSw); go_simp; try with_reducible rfl)
      try simp only [Act.put, qa, qb, qc, qD, qE, qF]
      refine qHk (v := ?_) 1 rfl (.inl ⟨by rfl, ?_⟩) ?_
      rotate_left
      ·
       (intro w hSw; (try dsimp only at hSw); go_simp; try with_reducible rfl)
      try simp only [Act.put, qa, qb, qc, qD, qE, qF]
      refine qHk (v := ?_) 2 rfl (.inl ⟨by rfl, ?_⟩) ?_
      rotate_left
      ·
       (intro w hSw; (try dsimp only at hSw); go_simp; try with_reducible rfl)
      try simp only [Act.put, qa, qb, qc, qD, qE, qF]
      refine qHk (v := ?_) 3 rfl (.inl ⟨by rfl, ?_⟩) ?_
      rotate_left
      ·
       (intro w hSw; (try dsimp only at hSw); go_simp; try with_reducible rfl)
      try simp only [Act.put, qa, qb, qc, qD, qE, qF]
      refine qHk (v := ?_) 4 rfl (.inl ⟨by rfl, ?_⟩) ?_
      rotate_left
      ·
       (intro w hSw; (try dsimp only at hSw); go_simp; try with_reducible rfl)
      try simp only [Act.put, qa, qb, qc, qD, qE, qF]
      refine qHk (v := ?_) 5 rfl (.inl ⟨by rfl, ?_⟩) ?_
      rotate_left
      ·
       (intro w hSw; (try dsimp only at hSw); go_simp; try with_reducible rfl)
      try simp only [Act.put, qa, qb, qc, qD, qE, qF]
      refine qHk (v := ?_) 6 rfl (.inl ⟨by rfl, ?_⟩) ?_
      rotate_left
      ·
       (intro w hSw; (try dsimp only at hSw); go_simp; try with_reducible rfl)
      try simp only [Act.put, qa, qb, qc, qD, qE, qF]
      refine qHk (v := ?_) 7 rfl (.inl ⟨by rfl, ?_⟩) ?_
      rotate_left
      ·
       (intro w hSw; (try dsimp only at hSw); go_simp; try with_reducible rfl)
      try simp only [Act.put, qa, qb, qc, qD, qE, qF]
      refine wpAnyH_ready (rs := [8, 12]) qKr (by simp) ?_
      refine AllReadyH.cons rfl (fun K hK => ?_) (AllReadyH.cons rfl (fun K hK => ?_) AllReadyH.nil)
      ·
       try simp only [Act.put, qa, qb, qc, qD, qE, qF]
       go_simp
       refine (pv_eq hP.out (specSliceDim_c B9 (.slice u14 S10.length c15) (.slice u16 T11.length c17) S10 T11 d F T B hf ht _ _ _ (i18.ext (Xw2.trans qXt)) (i19.ext (Xw2.trans qXt)))).mono ?_
       rintro e w3 ⟨fv22u, fv22v, rfl, i23u, i23v, -, -, -, xw3⟩
       have Lw3 : Ext w2 w3 := Ext.trans qXt xw3
       have Xw3 : Ext w w3 := Xw2.trans Lw3
       replace b10 := Lw3.cell b10
       replace b11 := Lw3.cell b11
       replace b20 := Lw3.cell b20
       replace b21 := Lw3.cell b21
       replace b22 := Lw3.cell b22
       replace b23 := Lw3.cell b23
       replace b24 := Lw3.cell b24
       replace b30 := Lw3.cell b30
       replace b31 := Lw3.cell b31
       replace f_b30 := Lw3.frz z_b3 f_b30
       replace f_b31 := Lw3.frz z_b3 f_b31
       replace x70 := Lw3.cell x70
       replace x71 := Lw3.cell x71
       replace x72 := Lw3.cell x72
       replace x73 := Lw3.cell x73
       replace x74 := Lw3.cell x74
       have z_b1 : w.heap.size < w3.heap.size := qB b10
       have z_b2 : w.heap.size + 1 < w3.heap.size := qB b20
       have z_b3 : w.heap.size + 1 + 1 < w3.heap.size := qB b30
       have z_x7 : bl20 < w3.heap.size := qB x70
       have s_w3 : w.heap.size ≤ w3.heap.size := Xw3.size
       have BD3_w3 : Ext w2 w3 := BD3.trans Lw3
       clear xw3
       try simp only [World.size_alloc, World.size_drew] at i23u
       try simp only [World.size_alloc, World.size_drew] at i23v
       obtain ⟨afv22u, cfv22u, rfl⟩ := i23u.form
       obtain ⟨afv22v, cfv22v, rfl⟩ := i23v.form
       have zD_w3 := (BD3_w3).size
       refine hK.out _ _ ⟨b10, b11, b20, b21, b22, b23, b24, b30, b31, x70, x71, x72, x73, x74⟩ (fun hHeld => ?_)
       clear hK K
       try simp only [Act.put, qa, qb, qc, qD, qE, qF]
       refine qHk (v := ?_) 9 rfl (.inl ⟨by rfl, ?_⟩) ?_
       rotate_left
       ·
        (intro w hSw; (try dsimp only at hSw); go_simp; try with_reducible rfl)
       try simp only [Act.put, qa, qb, qc, qD, qE, qF]
       refine qHk (v := ?_) 10 rfl (.inl ⟨by rfl, ?_⟩) ?_
       rotate_left
       ·
        (intro w hSw; (try dsimp only at hSw); go_simp; try with_reducible rfl)
       try simp only [Act.put, qa, qb, qc, qD, qE, qF]
       refine qHk (v := ?_) 11 rfl (.inl ⟨by rfl, ?_⟩) ?_
       rotate_left
       ·
        (intro w hSw; (try dsimp only at hSw); go_simp; try with_reducible rfl)
       try simp only [Act.put, qa, qb, qc, qD, qE, qF]
       refine qHr 12 rfl (fun K hK => ?_)
       try simp only [Act.put, qa, qb, qc, qD, qE, qF]
       go_simp
       have Q24_b10 := Lib.hid b10
       have Q24_b11 := Lib.hid b11
       have Q24_zb1 := z_b1
       have Q24_b20 := Lib.hid b20
       have Q24_b21 := Lib.hid b21
       have Q24_b22 := Lib.hid b22
       have Q24_b23 := Lib.hid b23
       have Q24_b24 := Lib.hid b24
       have Q24_zb2 := z_b2
       have Q24_b30 := Lib.hid b30
       have Q24_f_b30 := Lib.hid f_b30
       have Q24_b31 := Lib.hid b31
       have Q24_f_b31 := Lib.hid f_b31
       have Q24_zb3 := z_b3
       have Q24_x70 := Lib.hid x70
       have Q24_x71 := Lib.hid x71
       have Q24_x72 := Lib.hid x72
       have Q24_x73 := Lib.hid x73
       have Q24_x74 := Lib.hid x74
       have Q24_zx7 := z_x7
       have Q24_i23u := Lib.hid i23u
       have Q24_i23v := Lib.hid i23v
       have BL25 : Ext w3 w3 := Ext.refl _
       have Q26_b10 := Lib.hid b10
       have Q26_b11 := Lib.hid b11
       have Q26_zb1 := z_b1
       have Q26_b20 := Lib.hid b20
       have Q26_b21 := Lib.hid b21
       have Q26_b22 := Lib.hid b22
       have Q26_b23 := Lib.hid b23
       have Q26_b24 := Lib.hid b24
       have Q26_zb2 := z_b2
       have Q26_b30 := Lib.hid b30
       have Q26_f_b30 := Lib.hid f_b30
       have Q26_b31 := Lib.hid b31
       have Q26_f_b31 := Lib.hid f_b31
       have Q26_zb3 := z_b3
       have Q26_x70 := Lib.hid x70
       have Q26_x71 := Lib.hid x71
       have Q26_x72 := Lib.hid x72
       have Q26_x73 := Lib.hid x73
       have Q26_x74 := Lib.hid x74
       have Q26_zx7 := z_x7
       have Q26_i23u := Lib.hid i23u
       have Q26_i23v := Lib.hid i23v
       have BL27 : Ext w3 w3 := Ext.refl _
       refine hK.out _ _ ⟨(show Ext w3 _ from qXt).cell b10, (show Ext w3 _ from qXt).cell b11, (show Ext w3 _ from qXt).cell b20, (show Ext w3 _ from qXt).cell b21, (show Ext w3 _ from qXt).cell b22, (show Ext w3 _ from qXt).cell b23, (show Ext w3 _ from qXt).cell b24, (show Ext w3 _ from qXt).cell b30, (show Ext w3 _ from qXt).cell b31, (show Ext w3 _ from qXt).cell x70, (show Ext w3 _ from qXt).cell x71, (show Ext w3 _ from qXt).cell x72, (show Ext w3 _ from qXt).cell x73, (show Ext w3 _ from qXt).cell x74⟩ (fun hHeld => ?_)
       clear hK K
       try simp only [Act.put, qa, qb, qc, qD, qE, qF]
       refine qHr 13 rfl (fun K hK => ?_)
       try simp only [Act.put, qa, qb, qc, qD, qE, qF]
       go_simp
       have zn_BD3_w4 := (BD3_w3).size
       have zn_BL25_w4 := (BL25).size
       have zn_BL27_w4 := (BL27).size
       generalize hW4 : w3.alloc (.cells #[.int .i64 PB, .slice afv22u PS.length cfv22u, .slice afv22v PT.length cfv22v] 30) = w4 at *
       have Lw4 : Ext w3 w4 := by subst hW4; exact qXt
       have Xw4 : Ext w w4 := Xw3.trans Lw4
       replace b10 := Lw4.cell b10
       replace b11 := Lw4.cell b11
       replace b20 := Lw4.cell b20
       replace b21 := Lw4.cell b21
       replace b22 := Lw4.cell b22
       replace b23 := Lw4.cell b23
       replace b24 := Lw4.cell b24
       replace b30 := Lw4.cell b30
       replace b31 := Lw4.cell b31
       replace f_b30 := Lw4.frz z_b3 f_b30
       replace f_b31 := Lw4.frz z_b3 f_b31
       replace x70 := Lw4.cell x70
       replace x71 := Lw4.cell x71
       replace x72 := Lw4.cell x72
       replace x73 := Lw4.cell x73
       replace x74 := Lw4.cell x74
       have b280 : w4.cell? ⟨w3.heap.size, 0, none⟩ = some (.int .i64 PB) := by subst hW4; exact qCl
       have b281 : w4.cell? ⟨w3.heap.size, 1, none⟩ = some (.slice afv22u PS.length cfv22u) := by subst hW4; exact qCl
       have b282 : w4.cell? ⟨w3.heap.size, 2, none⟩ = some (.slice afv22v PT.length cfv22v) := by subst hW4; exact qCl
       have f_b280 : w4.frozen? ⟨w3.heap.size, 0, none⟩ = false := by subst hW4; exact qFz
       have f_b281 : w4.frozen? ⟨w3.heap.size, 1, none⟩ = false := by subst hW4; exact qFz
       have f_b282 : w4.frozen? ⟨w3.heap.size, 2, none⟩ = false := by subst hW4; exact qFz
       have z_b1 : w.heap.size < w4.heap.size := qB b10
       have z_b2 : w.heap.size + 1 < w4.heap.size := qB b20
       have z_b3 : w.heap.size + 1 + 1 < w4.heap.size := qB b30
       have z_x7 : bl20 < w4.heap.size := qB x70
       have z_b28 : w3.heap.size < w4.heap.size := qB b280
       replace i23u := i23u.ext Lw4
       replace i23v := i23v.ext Lw4
       have s_w4 : w.heap.size ≤ w4.heap.size := Xw4.size
       have BD3_w4 : Ext w2 w4 := BD3_w3.trans Lw4
       have BL25_w4 : Ext w3 w4 := BL25.trans Lw4
       have BL27_w4 : Ext w3 w4 := BL27.trans Lw4
       clear hW4
       refine hK.out _ _ ⟨b10, b11, b20, b21, b22, b23, b24, b30, b31, x70, x71, x72, x73, x74⟩ (fun hHeld => ?_)
       clear hK K
       try simp only [Act.put, qa, qb, qc, qD, qE, qF]
       refine qHk (v := ?_) 14 rfl (.inl ⟨by rfl, ?_⟩) ?_
       rotate_left
       ·
        (intro w hSw; (try dsimp only at hSw); go_simp; try with_reducible rfl)
       try simp only [Act.put, qa, qb, qc, qD, qE, qF]
       refine wpAnyH_done qKr ?_ _
       clear hHeld
       go_step
       go_step
       go_meet
       case rel => exact ⟨_, _, _, _, _, rfl, rfl, BD3_w4, (by omega), b280, b281, b282, f_b280, f_b281, f_b282, i23u.lower (by omega), i23v.lower (by omega)⟩
      ·
       try simp only [Act.put, qa, qb, qc, qD, qE, qF]
       go_simp
       have Q29_b10 := Lib.hid b10
       have Q29_b11 := Lib.hid b11
       have Q29_zb1 := z_b1
       have Q29_b20 := Lib.hid b20
       have Q29_b21 := Lib.hid b21
       have Q29_b22 := Lib.hid b22
       have Q29_b23 := Lib.hid b23
       have Q29_b24 := Lib.hid b24
       have Q29_zb2 := z_b2
       have Q29_b30 := Lib.hid b30
       have Q29_f_b30 := Lib.hid f_b30
       have Q29_b31 := Lib.hid b31
       have Q29_f_b31 := Lib.hid f_b31
       have Q29_zb3 := z_b3
       have Q29_x70 := Lib.hid x70
       have Q29_x71 := Lib.hid x71
       have Q29_x72 := Lib.hid x72
       have Q29_x73 := Lib.hid x73
       have Q29_x74 := Lib.hid x74
       have Q29_zx7 := z_x7
       have BL30 : Ext w2 w2 := Ext.refl _
       refine hK.out _ _ ⟨(show Ext w2 _ from qXt).cell b10, (show Ext w2 _ from qXt).cell b11, (show Ext w2 _ from qXt).cell b20, (show Ext w2 _ from qXt).cell b21, (show Ext w2 _ from qXt).cell b22, (show Ext w2 _ from qXt).cell b23, (show Ext w2 _ from qXt).cell b24, (show Ext w2 _ from qXt).cell b30, (show Ext w2 _ from qXt).cell b31, (show Ext w2 _ from qXt).cell x70, (show Ext w2 _ from qXt).cell x71, (show Ext w2 _ from qXt).cell x72, (show Ext w2 _ from qXt).cell x73, (show Ext w2 _ from qXt).cell x74⟩ (fun hHeld => ?_)
       clear hK K
       try simp only [Act.put, qa, qb, qc, qD, qE, qF]
       refine qHr 8 rfl (fun K hK => ?_)
       try simp only [Act.put, qa, qb, qc, qD, qE, qF]
       go_simp
       refine (pv_eq hP.out (specSliceDim_c B9 (.slice u14 S10.length c15) (.slice u16 T11.length c17) S10 T11 d F T B hf ht _ _ _ (i18.ext (Xw2.trans qXt)) (i19.ext (Xw2.trans qXt)))).mono ?_
       rintro e w3 ⟨fv32u, fv32v, rfl, i33u, i33v, -, -, -, xw3⟩
       have Lw3 : Ext w2 w3 := Ext.trans qXt xw3
       have Xw3 : Ext w w3 := Xw2.trans Lw3
       replace b10 := Lw3.cell b10
       replace b11 := Lw3.cell b11
       replace b20 := Lw3.cell b20
       replace b21 := Lw3.cell b21
       replace b22 := Lw3.cell b22
       replace b23 := Lw3.cell b23
       replace b24 := Lw3.cell b24
       replace b30 := Lw3.cell b30
       replace b31 := Lw3.cell b31
       replace f_b30 := Lw3.frz z_b3 f_b30
       replace f_b31 := Lw3.frz z_b3 f_b31
       replace x70 := Lw3.cell x70
       replace x71 := Lw3.cell x71
       replace x72 := Lw3.cell x72
       replace x73 := Lw3.cell x73
       replace x74 := Lw3.cell x74
       have b310 : w3.cell? ⟨w2.heap.size, 0, none⟩ = some (.int .i64 0) := xw3.cell qCl
       have b311 : w3.cell? ⟨w2.heap.size, 1, none⟩ = some (.slice none 0 0) := xw3.cell qCl
       have b312 : w3.cell? ⟨w2.heap.size, 2, none⟩ = some (.slice none 0 0) := xw3.cell qCl
       have f_b310 : w3.frozen? ⟨w2.heap.size, 0, none⟩ = false := xw3.frz (by simp <;> omega) qFz
       have f_b311 : w3.frozen? ⟨w2.heap.size, 1, none⟩ = false := xw3.frz (by simp <;> omega) qFz
       have f_b312 : w3.frozen? ⟨w2.heap.size, 2, none⟩ = false := xw3.frz (by simp <;> omega) qFz
       have z_b1 : w.heap.size < w3.heap.size := qB b10
       have z_b2 : w.heap.size + 1 < w3.heap.size := qB b20
       have z_b3 : w.heap.size + 1 + 1 < w3.heap.size := qB b30
       have z_x7 : bl20 < w3.heap.size := qB x70
       have z_b31 : w2.heap.size < w3.heap.size := qB b310
       have s_w3 : w.heap.size ≤ w3.heap.size := Xw3.size
       have BD3_w3 : Ext w2 w3 := BD3.trans Lw3
       have BL30_w3 : Ext w2 w3 := BL30.trans Lw3
       clear xw3
       try simp only [World.size_alloc, World.size_drew] at i33u
       try simp only [World.size_alloc, World.size_drew] at i33v
       obtain ⟨afv32u, cfv32u, rfl⟩ := i33u.form
       obtain ⟨afv32v, cfv32v, rfl⟩ := i33v.form
       have zD_w3 := (BD3_w3).size
       refine hK.out _ _ ⟨b10, b11, b20, b21, b22, b23, b24, b30, b31, x70, x71, x72, x73, x74⟩ (fun hHeld => ?_)
       clear hK K
       try simp only [Act.put, qa, qb, qc, qD, qE, qF]
       refine qHk (v := ?_) 9 rfl (.inl ⟨by rfl, ?_⟩) ?_
       rotate_left
       ·
        (intro w hSw; (try dsimp only at hSw); go_simp; try with_reducible rfl)
       try simp only [Act.put, qa, qb, qc, qD, qE, qF]
       refine qHk (v := ?_) 10 rfl (.inl ⟨by rfl, ?_⟩) ?_
       rotate_left
       ·
        (intro w hSw; (try dsimp only at hSw); go_simp; try with_reducible rfl)
       try simp only [Act.put, qa, qb, qc, qD, qE, qF]
       refine qHk (v := ?_) 11 rfl (.inl ⟨by rfl, ?_⟩) ?_
       rotate_left
       ·
        (intro w hSw; (try dsimp only at hSw); go_simp; try with_reducible rfl)
       try simp only [Act.put, qa, qb, qc, qD, qE, qF]
       refine qHr 13 rfl (fun K hK => ?_)
       try simp only [Act.put, qa, qb, qc, qD, qE, qF]
       go_simp
       generalize hW5 : (((w3.setCell ⟨w2.heap.size, 0, none⟩ (.int .i64 PB)).setCell ⟨w2.heap.size, 1, none⟩ (.slice afv32u PS.length cfv32u)).setCell ⟨w2.heap.size, 2, none⟩ (.slice afv32v PT.length cfv32v)) = w4 at *
       have Kw4 : Chg (w2.heap.size) (w2.heap.size + 1) w3 w4 := by subst hW5; exact qCh
       have Xw4 : Ext w w4 := by subst hW5; exact qXt
       have BD3_w4 : Ext w2 w4 := by subst hW5; exact qXt
       have BL30_w4 : Ext w2 w4 := by subst hW5; exact qXt
       replace b10 := BL30_w4.cell Q29_b10.out
       replace b11 := BL30_w4.cell Q29_b11.out
       replace b20 := BL30_w4.cell Q29_b20.out
       replace b21 := BL30_w4.cell Q29_b21.out
       replace b22 := BL30_w4.cell Q29_b22.out
       replace b23 := BL30_w4.cell Q29_b23.out
       replace b24 := BL30_w4.cell Q29_b24.out
       replace b30 := BL30_w4.cell Q29_b30.out
       replace f_b30 := BL30_w4.frz Q29_zb3 Q29_f_b30.out
       replace b31 := BL30_w4.cell Q29_b31.out
       replace f_b31 := BL30_w4.frz Q29_zb3 Q29_f_b31.out
       replace x70 := BL30_w4.cell Q29_x70.out
       replace x71 := BL30_w4.cell Q29_x71.out
       replace x72 := BL30_w4.cell Q29_x72.out
       replace x73 := BL30_w4.cell Q29_x73.out
       replace x74 := BL30_w4.cell Q29_x74.out
       replace b310 : w4.cell? ⟨w2.heap.size, 0, none⟩ = some (.int .i64 PB) := by subst hW5; go_simp
       replace f_b310 : w4.frozen? ⟨w2.heap.size, 0, none⟩ = false := by subst hW5; first | (simp only [World.frozen?_setCell]; with_reducible assumption) | go_simp
       replace b311 : w4.cell? ⟨w2.heap.size, 1, none⟩ = some (.slice afv32u PS.length cfv32u) := by subst hW5; go_simp
       replace f_b311 : w4.frozen? ⟨w2.heap.size, 1, none⟩ = false := by subst hW5; first | (simp only [World.frozen?_setCell]; with_reducible assumption) | go_simp
       replace b312 : w4.cell? ⟨w2.heap.size, 2, none⟩ = some (.slice afv32v PT.length cfv32v) := by subst hW5; go_simp
       replace f_b312 : w4.frozen? ⟨w2.heap.size, 2, none⟩ = false := by subst hW5; first | (simp only [World.frozen?_setCell]; with_reducible assumption) | go_simp
       replace i33u := i33u.chg Kw4 (by omega)
       replace i33v := i33v.chg Kw4 (by omega)
       clear Kw4
       have z_b1 : w.heap.size < w4.heap.size := qB b10
       have z_b2 : w.heap.size + 1 < w4.heap.size := qB b20
       have z_b3 : w.heap.size + 1 + 1 < w4.heap.size := qB b30
       have z_x7 : bl20 < w4.heap.size := qB x70
       have z_b31 : w2.heap.size < w4.heap.size := qB b310
       have s_w4 : w.heap.size ≤ w4.heap.size := Xw4.size
       clear hW5
       refine hK.out _ _ ⟨b10, b11, b20, b21, b22, b23, b24, b30, b31, x70, x71, x72, x73, x74⟩ (fun hHeld => ?_)
       clear hK K
       try simp only [Act.put, qa, qb, qc, qD, qE, qF]
       refine qHk (v := ?_) 14 rfl (.inl ⟨by rfl, ?_⟩) ?_
       rotate_left
       ·
        (intro w hSw; (try dsimp only at hSw); go_simp; try with_reducible rfl)
       try simp only [Act.put, qa, qb, qc, qD, qE, qF]
       refine wpAnyH_done qKr ?_ _
       clear hHeld
       go_step
       go_step
       go_meet
       case rel => exact ⟨_, _, _, _, _, rfl, rfl, BD3_w4, (by omega), b310, b311, b312, f_b310, f_b311, f_b312, i33u.lower (by omega), i33v.lower (by omega)⟩
     case rest =>
      generalize wc = wc35 at hcut ⊢
      obtain ⟨g36, af40, cf41, af42, cf43, rfl, rfl, xx37, hg_b34, b340, b341, b342, f_b340, f_b341, f_b342, i38, i39⟩ := hcut
      have Lwc35 : Ext w2 wc35 := Ext.trans qXt xx37
      have Xwc35 : Ext w wc35 := Xw2.trans Lwc35
      replace b10 := Lwc35.cell b10
      replace b11 := Lwc35.cell b11
      replace b20 := Lwc35.cell b20
      replace b21 := Lwc35.cell b21
      replace b22 := Lwc35.cell b22
      replace b23 := Lwc35.cell b23
      replace b24 := Lwc35.cell b24
      replace b30 := Lwc35.cell b30
      replace b31 := Lwc35.cell b31
      replace f_b30 := Lwc35.frz z_b3 f_b30
      replace f_b31 := Lwc35.frz z_b3 f_b31
      replace x70 := Lwc35.cell x70
      replace x71 := Lwc35.cell x71
      replace x72 := Lwc35.cell x72
      replace x73 := Lwc35.cell x73
      replace x74 := Lwc35.cell x74
      have z_b1 : w.heap.size < wc35.heap.size := qB b10
      have z_b2 : w.heap.size + 1 < wc35.heap.size := qB b20
      have z_b3 : w.heap.size + 1 + 1 < wc35.heap.size := qB b30
      have z_x7 : bl20 < wc35.heap.size := qB x70
      have s_wc35 : w.heap.size ≤ wc35.heap.size := Xwc35.size
      clear xx37
      have z_b34 : g36 < wc35.heap.size := qB b340
      go_wp2_with fail
      generalize hW6 : ((wc35.setCell ⟨w.heap.size + 1 + 1, 0, none⟩ (.slice none 0 0)).setCell ⟨w.heap.size + 1 + 1, 1, none⟩ (.slice none 0 0)) = w3 at *
      have Kw3 : Chg (w.heap.size + 1 + 1) (w.heap.size + 1 + 1 + 1) wc35 w3 := by subst hW6; exact qCh
      have Xw3 : Ext w w3 := by subst hW6; exact qXt
      replace b10 := Kw3.cell (by omega) b10
      replace b11 := Kw3.cell (by omega) b11
      replace b20 := Kw3.cell (by omega) b20
      replace b21 := Kw3.cell (by omega) b21
      replace b22 := Kw3.cell (by omega) b22
      replace b23 := Kw3.cell (by omega) b23
      replace b24 := Kw3.cell (by omega) b24
      replace b30 : w3.cell? ⟨w.heap.size + 1 + 1, 0, none⟩ = some (.slice none 0 0) := by subst hW6; go_simp
      replace f_b30 : w3.frozen? ⟨w.heap.size + 1 + 1, 0, none⟩ = false := by subst hW6; first | (simp only [World.frozen?_setCell]; with_reducible assumption) | go_simp
      replace b31 : w3.cell? ⟨w.heap.size + 1 + 1, 1, none⟩ = some (.slice none 0 0) := by subst hW6; go_simp
      replace f_b31 : w3.frozen? ⟨w.heap.size + 1 + 1, 1, none⟩ = false := by subst hW6; first | (simp only [World.frozen?_setCell]; with_reducible assumption) | go_simp
      replace x70 := Kw3.cell (by omega) x70
      replace x71 := Kw3.cell (by omega) x71
      replace x72 := Kw3.cell (by omega) x72
      replace x73 := Kw3.cell (by omega) x73
      replace x74 := Kw3.cell (by omega) x74
      replace b340 := Kw3.cell (by omega) b340
      replace f_b340 := Kw3.frzO (by omega) z_b34 f_b340
      replace b341 := Kw3.cell (by omega) b341
      replace f_b341 := Kw3.frzO (by omega) z_b34 f_b341
      replace b342 := Kw3.cell (by omega) b342
      replace f_b342 := Kw3.frzO (by omega) z_b34 f_b342
      replace i38 := i38.chg Kw3 (by omega)
      replace i39 := i39.chg Kw3 (by omega)
      clear Kw3
      have z_b1 : w.heap.size < w3.heap.size := qB b10
      have z_b2 : w.heap.size + 1 < w3.heap.size := qB b20
      have z_b3 : w.heap.size + 1 + 1 < w3.heap.size := qB b30
      have z_x7 : bl20 < w3.heap.size := qB x70
      have z_b34 : g36 < w3.heap.size := qB b340
      have s_w3 : w.heap.size ≤ w3.heap.size := Xw3.size
      clear hW6
      refine bodyPost_ret (v := .tuple #[.agg #[.slice none 0 0, .slice none 0 0], .bool false]) (by simp only [results, Try.results87]; go_simp) rfl ?_
      exact PBX.no (by unfold parA; simp only [Int.toNat_natCast]; rw [hX13.out]; dsimp only; rw [hP.out, Bool.and_false]; rfl) (Xw3.trans qXt)
    ·
     go_wp2_with fail
     go_cut [10, 11] (fun s10 s11 wx => ∃ (g : Nat) (afv44u : Option Addr) (cfv44u : Nat) (afv44v : Option Addr) (cfv44v : Nat), s10 = .pointer (some ⟨g, 0, none⟩) ∧ s11 = .bool true ∧ Ext w2 wx ∧ w2.heap.size ≤ g ∧ wx.cell? ⟨g, 0, none⟩ = some (.int .i64 PB) ∧ wx.cell? ⟨g, 1, none⟩ = some (.slice afv44u PS.length cfv44u) ∧ wx.cell? ⟨g, 2, none⟩ = some (.slice afv44v PT.length cfv44v) ∧ wx.frozen? ⟨g, 0, none⟩ = false ∧ wx.frozen? ⟨g, 1, none⟩ = false ∧ wx.frozen? ⟨g, 2, none⟩ = false ∧ Ints wx w2.heap.size (.slice afv44u PS.length cfv44u) PS ∧ Ints wx w2.heap.size (.slice afv44v PT.length cfv44v) PT)
     case first =>
      have BD3 : Ext w2 w2 := Ext.refl _
      refine wp_region_held_drew (S := fun w' => w'.cell? ⟨w.heap.size, 0, none⟩ = some (.slice p0 cells.length c0) ∧ w'.cell? ⟨w.heap.size, 1, none⟩ = some (.slice (some ⟨bl20, ol21, none⟩) es.length c1) ∧ w'.cell? ⟨w.heap.size + 1, 0, none⟩ = some (.int .i64 F) ∧ w'.cell? ⟨w.heap.size + 1, 1, none⟩ = some (.int .i64 T) ∧ w'.cell? ⟨w.heap.size + 1, 2, none⟩ = some (.int .i64 B) ∧ w'.cell? ⟨w.heap.size + 1, 3, none⟩ = some (.bool hf) ∧ w'.cell? ⟨w.heap.size + 1, 4, none⟩ = some (.bool ht) ∧ w'.cell? ⟨w.heap.size + 1 + 1, 0, none⟩ = some (.slice none 0 0) ∧ w'.cell? ⟨w.heap.size + 1 + 1, 1, none⟩ = some (.slice none 0 0) ∧ w'.cell? ⟨bl20, ol21 + k * 5, none⟩ = some (.int .i64 P8) ∧ w'.cell? ⟨bl20, ol21 + k * 5 + 1, none⟩ = some (.int .i64 B9) ∧ w'.cell? ⟨bl20, ol21 + k * 5 + 2, none⟩ = some (.slice u14 S10.length c15) ∧ w'.cell? ⟨bl20, ol21 + k * 5 + 3, none⟩ = some (.slice u16 T11.length c17) ∧ w'.cell? ⟨bl20, ol21 + k * 5 + 4, none⟩ = some (.bool O12)) qKr ⟨b10, b11, b20, b21, b22, b23, b24, b30, b31, x70, x71, x72, x73, x74⟩ (fun hHeld => ?_)
      refine qHk (v := ?_) 0 rfl (.inl ⟨by rfl, ?_⟩) ?_
      rotate_left
      ·
       (intro w hSw; (try dsimp only at hSw); go_simp; try with_reducible rfl)
      try simp only [Act.put, qa, qb, qc, qD, qE, qF]
      refine qHk (v := ?_) 1 rfl (.inl ⟨by rfl, ?_⟩) ?_
      rotate_left
      ·
       (intro w hSw; (try dsimp only at hSw); go_simp; try with_reducible rfl)
      try simp only [Act.put, qa, qb, qc, qD, qE, qF]
      refine qHk (v := ?_) 2 rfl (.inl ⟨by rfl, ?_⟩) ?_
      rotate_left
      ·
       (intro w hSw; (try dsimp only at hSw); go_simp; try with_reducible rfl)
      try simp only [Act.put, qa, qb, qc, qD, qE, qF]
      refine qHk (v := ?_) 3 rfl (.inl ⟨by rfl, ?_⟩) ?_
      rotate_left
      ·
       (intro w hSw; (try dsimp only at hSw); go_simp; try with_reducible rfl)
      try simp only [Act.put, qa, qb, qc, qD, qE, qF]
      refine qHk (v := ?_) 4 rfl (.inl ⟨by rfl, ?_⟩) ?_
      rotate_left
      ·
       (intro w hSw; (try dsimp only at hSw); go_simp; try with_reducible rfl)
      try simp only [Act.put, qa, qb, qc, qD, qE, qF]
      refine qHk (v := ?_) 5 rfl (.inl ⟨by rfl, ?_⟩) ?_
      rotate_left
      ·
       (intro w hSw; (try dsimp only at hSw); go_simp; try with_reducible rfl)
      try simp only [Act.put, qa, qb, qc, qD, qE, qF]
      refine qHk (v := ?_) 6 rfl (.inl ⟨by rfl, ?_⟩) ?_
      rotate_left
      ·
       (intro w hSw; (try dsimp only at hSw); go_simp; try with_reducible rfl)
      try simp only [Act.put, qa, qb, qc, qD, qE, qF]
      refine qHk (v := ?_) 7 rfl (.inl ⟨by rfl, ?_⟩) ?_
      rotate_left
      ·
       (intro w hSw; (try dsimp only at hSw); go_simp; try with_reducible rfl)
      try simp only [Act.put, qa, qb, qc, qD, qE, qF]
      refine wpAnyH_ready (rs := [8, 12]) qKr (by simp) ?_
      refine AllReadyH.cons rfl (fun K hK => ?_) (AllReadyH.cons rfl (fun K hK => ?_) AllReadyH.nil)
      ·
       try simp only [Act.put, qa, qb, qc, qD, qE, qF]
       go_simp
       refine (pv_eq hP.out (specSliceDim_c B9 (.slice u14 S10.length c15) (.slice u16 T11.length c17) S10 T11 d F T B hf ht _ _ _ (i18.ext (Xw2.trans qXt)) (i19.ext (Xw2.trans qXt)))).mono ?_
       rintro e w3 ⟨fv44u, fv44v, rfl, i45u, i45v, -, -, -, xw3⟩
       have Lw3 : Ext w2 w3 := Ext.trans qXt xw3
       have Xw3 : Ext w w3 := Xw2.trans Lw3
       replace b10 := Lw3.cell b10
       replace b11 := Lw3.cell b11
       replace b20 := Lw3.cell b20
       replace b21 := Lw3.cell b21
       replace b22 := Lw3.cell b22
       replace b23 := Lw3.cell b23
       replace b24 := Lw3.cell b24
       replace b30 := Lw3.cell b30
       replace b31 := Lw3.cell b31
       replace f_b30 := Lw3.frz z_b3 f_b30
       replace f_b31 := Lw3.frz z_b3 f_b31
       replace x70 := Lw3.cell x70
       replace x71 := Lw3.cell x71
       replace x72 := Lw3.cell x72
       replace x73 := Lw3.cell x73
       replace x74 := Lw3.cell x74
       have z_b1 : w.heap.size < w3.heap.size := qB b10
       have z_b2 : w.heap.size + 1 < w3.heap.size := qB b20
       have z_b3 : w.heap.size + 1 + 1 < w3.heap.size := qB b30
       have z_x7 : bl20 < w3.heap.size := qB x70
       have s_w3 : w.heap.size ≤ w3.heap.size := Xw3.size
       have BD3_w3 : Ext w2 w3 := BD3.trans Lw3
       clear xw3
       try simp only [World.size_alloc, World.size_drew] at i45u
       try simp only [World.size_alloc, World.size_drew] at i45v
       obtain ⟨afv44u, cfv44u, rfl⟩ := i45u.form
       obtain ⟨afv44v, cfv44v, rfl⟩ := i45v.form
       have zD_w3 := (BD3_w3).size
       refine hK.out _ _ ⟨b10, b11, b20, b21, b22, b23, b24, b30, b31, x70, x71, x72, x73, x74⟩ (fun hHeld => ?_)
       clear hK K
       try simp only [Act.put, qa, qb, qc, qD, qE, qF]
       refine qHk (v := ?_) 9 rfl (.inl ⟨by rfl, ?_⟩) ?_
       rotate_left
       ·
        (intro w hSw; (try dsimp only at hSw); go_simp; try with_reducible rfl)
       try simp only [Act.put, qa, qb, qc, qD, qE, qF]
       refine qHk (v := ?_) 10 rfl (.inl ⟨by rfl, ?_⟩) ?_
       rotate_left
       ·
        (intro w hSw; (try dsimp only at hSw); go_simp; try with_reducible rfl)
       try simp only [Act.put, qa, qb, qc, qD, qE, qF]
       refine qHk (v := ?_) 11 rfl (.inl ⟨by rfl, ?_⟩) ?_
       rotate_left
       ·
        (intro w hSw; (try dsimp only at hSw); go_simp; try with_reducible rfl)
       try simp only [Act.put, qa, qb, qc, qD, qE, qF]
       refine qHr 12 rfl (fun K hK => ?_)
       try simp only [Act.put, qa, qb, qc, qD, qE, qF]
       go_simp
       have Q46_b10 := Lib.hid b10
       have Q46_b11 := Lib.hid b11
       have Q46_zb1 := z_b1
       have Q46_b20 := Lib.hid b20
       have Q46_b21 := Lib.hid b21
       have Q46_b22 := Lib.hid b22
       have Q46_b23 := Lib.hid b23
       have Q46_b24 := Lib.hid b24
       have Q46_zb2 := z_b2
       have Q46_b30 := Lib.hid b30
       have Q46_f_b30 := Lib.hid f_b30
       have Q46_b31 := Lib.hid b31
       have Q46_f_b31 := Lib.hid f_b31
       have Q46_zb3 := z_b3
       have Q46_x70 := Lib.hid x70
       have Q46_x71 := Lib.hid x71
       have Q46_x72 := Lib.hid x72
       have Q46_x73 := Lib.hid x73
       have Q46_x74 := Lib.hid x74
       have Q46_zx7 := z_x7
       have Q46_i45u := Lib.hid i45u
       have Q46_i45v := Lib.hid i45v
       have BL47 : Ext w3 w3 := Ext.refl _
       have Q48_b10 := Lib.hid b10
       have Q48_b11 := Lib.hid b11
       have Q48_zb1 := z_b1
       have Q48_b20 := Lib.hid b20
       have Q48_b21 := Lib.hid b21
       have Q48_b22 := Lib.hid b22
       have Q48_b23 := Lib.hid b23
       have Q48_b24 := Lib.hid b24
       have Q48_zb2 := z_b2
       have Q48_b30 := Lib.hid b30
       have Q48_f_b30 := Lib.hid f_b30
       have Q48_b31 := Lib.hid b31
       have Q48_f_b31 := Lib.hid f_b31
       have Q48_zb3 := z_b3
       have Q48_x70 := Lib.hid x70
       have Q48_x71 := Lib.hid x71
       have Q48_x72 := Lib.hid x72
       have Q48_x73 := Lib.hid x73
       have Q48_x74 := Lib.hid x74
       have Q48_zx7 := z_x7
       have Q48_i45u := Lib.hid i45u
       have Q48_i45v := Lib.hid i45v
       have BL49 : Ext w3 w3 := Ext.refl _
       refine hK.out _ _ ⟨(show Ext w3 _ from qXt).cell b10, (show Ext w3 _ from qXt).cell b11, (show Ext w3 _ from qXt).cell b20, (show Ext w3 _ from qXt).cell b21, (show Ext w3 _ from qXt).cell b22, (show Ext w3 _ from qXt).cell b23, (show Ext w3 _ from qXt).cell b24, (show Ext w3 _ from qXt).cell b30, (show Ext w3 _ from qXt).cell b31, (show Ext w3 _ from qXt).cell x70, (show Ext w3 _ from qXt).cell x71, (show Ext w3 _ from qXt).cell x72, (show Ext w3 _ from qXt).cell x73, (show Ext w3 _ from qXt).cell x74⟩ (fun hHeld => ?_)
       clear hK K
       try simp only [Act.put, qa, qb, qc, qD, qE, qF]
       refine qHr 13 rfl (fun K hK => ?_)
       try simp only [Act.put, qa, qb, qc, qD, qE, qF]
       go_simp
       have zn_BD3_w4 := (BD3_w3).size
       have zn_BL47_w4 := (BL47).size
       have zn_BL49_w4 := (BL49).size
       generalize hW7 : w3.alloc (.cells #[.int .i64 PB, .slice afv44u PS.length cfv44u, .slice afv44v PT.length cfv44v] 30) = w4 at *
       have Lw4 : Ext w3 w4 := by subst hW7; exact qXt
       have Xw4 : Ext w w4 := Xw3.trans Lw4
       replace b10 := Lw4.cell b10
       replace b11 := Lw4.cell b11
       replace b20 := Lw4.cell b20
       replace b21 := Lw4.cell b21
       replace b22 := Lw4.cell b22
       replace b23 := Lw4.cell b23
       replace b24 := Lw4.cell b24
       replace b30 := Lw4.cell b30
       replace b31 := Lw4.cell b31
       replace f_b30 := Lw4.frz z_b3 f_b30
       replace f_b31 := Lw4.frz z_b3 f_b31
       replace x70 := Lw4.cell x70
       replace x71 := Lw4.cell x71
       replace x72 := Lw4.cell x72
       replace x73 := Lw4.cell x73
       replace x74 := Lw4.cell x74
       have b500 : w4.cell? ⟨w3.heap.size, 0, none⟩ = some (.int .i64 PB) := by subst hW7; exact qCl
       have b501 : w4.cell? ⟨w3.heap.size, 1, none⟩ = some (.slice afv44u PS.length cfv44u) := by subst hW7; exact qCl
       have b502 : w4.cell? ⟨w3.heap.size, 2, none⟩ = some (.slice afv44v PT.length cfv44v) := by subst hW7; exact qCl
       have f_b500 : w4.frozen? ⟨w3.heap.size, 0, none⟩ = false := by subst hW7; exact qFz
       have f_b501 : w4.frozen? ⟨w3.heap.size, 1, none⟩ = false := by subst hW7; exact qFz
       have f_b502 : w4.frozen? ⟨w3.heap.size, 2, none⟩ = false := by subst hW7; exact qFz
       have z_b1 : w.heap.size < w4.heap.size := qB b10
       have z_b2 : w.heap.size + 1 < w4.heap.size := qB b20
       have z_b3 : w.heap.size + 1 + 1 < w4.heap.size := qB b30
       have z_x7 : bl20 < w4.heap.size := qB x70
       have z_b50 : w3.heap.size < w4.heap.size := qB b500
       replace i45u := i45u.ext Lw4
       replace i45v := i45v.ext Lw4
       have s_w4 : w.heap.size ≤ w4.heap.size := Xw4.size
       have BD3_w4 : Ext w2 w4 := BD3_w3.trans Lw4
       have BL47_w4 : Ext w3 w4 := BL47.trans Lw4
       have BL49_w4 : Ext w3 w4 := BL49.trans Lw4
       clear hW7
       refine hK.out _ _ ⟨b10, b11, b20, b21, b22, b23, b24, b30, b31, x70, x71, x72, x73, x74⟩ (fun hHeld => ?_)
       clear hK K
       try simp only [Act.put, qa, qb, qc, qD, qE, qF]
       refine qHk (v := ?_) 14 rfl (.inl ⟨by rfl, ?_⟩) ?_
       rotate_left
       ·
        (intro w hSw; (try dsimp only at hSw); go_simp; try with_reducible rfl)
       try simp only [Act.put, qa, qb, qc, qD, qE, qF]
       refine wpAnyH_done qKr ?_ _
       clear hHeld
       go_step
       go_step
       go_meet
       case rel => exact ⟨_, _, _, _, _, rfl, rfl, BD3_w4, (by omega), b500, b501, b502, f_b500, f_b501, f_b502, i45u.lower (by omega), i45v.lower (by omega)⟩
      ·
       try simp only [Act.put, qa, qb, qc, qD, qE, qF]
       go_simp
       have Q51_b10 := Lib.hid b10
       have Q51_b11 := Lib.hid b11
       have Q51_zb1 := z_b1
       have Q51_b20 := Lib.hid b20
       have Q51_b21 := Lib.hid b21
       have Q51_b22 := Lib.hid b22
       have Q51_b23 := Lib.hid b23
       have Q51_b24 := Lib.hid b24
       have Q51_zb2 := z_b2
       have Q51_b30 := Lib.hid b30
       have Q51_f_b30 := Lib.hid f_b30
       have Q51_b31 := Lib.hid b31
       have Q51_f_b31 := Lib.hid f_b31
       have Q51_zb3 := z_b3
       have Q51_x70 := Lib.hid x70
       have Q51_x71 := Lib.hid x71
       have Q51_x72 := Lib.hid x72
       have Q51_x73 := Lib.hid x73
       have Q51_x74 := Lib.hid x74
       have Q51_zx7 := z_x7
       have BL52 : Ext w2 w2 := Ext.refl _
       refine hK.out _ _ ⟨(show Ext w2 _ from qXt).cell b10, (show Ext w2 _ from qXt).cell b11, (show Ext w2 _ from qXt).cell b20, (show Ext w2 _ from qXt).cell b21, (show Ext w2 _ from qXt).cell b22, (show Ext w2 _ from qXt).cell b23, (show Ext w2 _ from qXt).cell b24, (show Ext w2 _ from qXt).cell b30, (show Ext w2 _ from qXt).cell b31, (show Ext w2 _ from qXt).cell x70, (show Ext w2 _ from qXt).cell x71, (show Ext w2 _ from qXt).cell x72, (show Ext w2 _ from qXt).cell x73, (show Ext w2 _ from qXt).cell x74⟩ (fun hHeld => ?_)
       clear hK K
       try simp only [Act.put, qa, qb, qc, qD, qE, qF]
       refine qHr 8 rfl (fun K hK => ?_)
       try simp only [Act.put, qa, qb, qc, qD, qE, qF]
       go_simp
       refine (pv_eq hP.out (specSliceDim_c B9 (.slice u14 S10.length c15) (.slice u16 T11.length c17) S10 T11 d F T B hf ht _ _ _ (i18.ext (Xw2.trans qXt)) (i19.ext (Xw2.trans qXt)))).mono ?_
       rintro e w3 ⟨fv54u, fv54v, rfl, i55u, i55v, -, -, -, xw3⟩
       have Lw3 : Ext w2 w3 := Ext.trans qXt xw3
       have Xw3 : Ext w w3 := Xw2.trans Lw3
       replace b10 := Lw3.cell b10
       replace b11 := Lw3.cell b11
       replace b20 := Lw3.cell b20
       replace b21 := Lw3.cell b21
       replace b22 := Lw3.cell b22
       replace b23 := Lw3.cell b23
       replace b24 := Lw3.cell b24
       replace b30 := Lw3.cell b30
       replace b31 := Lw3.cell b31
       replace f_b30 := Lw3.frz z_b3 f_b30
       replace f_b31 := Lw3.frz z_b3 f_b31
       replace x70 := Lw3.cell x70
       replace x71 := Lw3.cell x71
       replace x72 := Lw3.cell x72
       replace x73 := Lw3.cell x73
       replace x74 := Lw3.cell x74
       have b530 : w3.cell? ⟨w2.heap.size, 0, none⟩ = some (.int .i64 0) := xw3.cell qCl
       have b531 : w3.cell? ⟨w2.heap.size, 1, none⟩ = some (.slice none 0 0) := xw3.cell qCl
       have b532 : w3.cell? ⟨w2.heap.size, 2, none⟩ = some (.slice none 0 0) := xw3.cell qCl
       have f_b530 : w3.frozen? ⟨w2.heap.size, 0, none⟩ = false := xw3.frz (by simp <;> omega) qFz
       have f_b531 : w3.frozen? ⟨w2.heap.size, 1, none⟩ = false := xw3.frz (by simp <;> omega) qFz
       have f_b532 : w3.frozen? ⟨w2.heap.size, 2, none⟩ = false := xw3.frz (by simp <;> omega) qFz
       have z_b1 : w.heap.size < w3.heap.size := qB b10
       have z_b2 : w.heap.size + 1 < w3.heap.size := qB b20
       have z_b3 : w.heap.size + 1 + 1 < w3.heap.size := qB b30
       have z_x7 : bl20 < w3.heap.size := qB x70
       have z_b53 : w2.heap.size < w3.heap.size := qB b530
       have s_w3 : w.heap.size ≤ w3.heap.size := Xw3.size
       have BD3_w3 : Ext w2 w3 := BD3.trans Lw3
       have BL52_w3 : Ext w2 w3 := BL52.trans Lw3
       clear xw3
       try simp only [World.size_alloc, World.size_drew] at i55u
       try simp only [World.size_alloc, World.size_drew] at i55v
       obtain ⟨afv54u, cfv54u, rfl⟩ := i55u.form
       obtain ⟨afv54v, cfv54v, rfl⟩ := i55v.form
       have zD_w3 := (BD3_w3).size
       refine hK.out _ _ ⟨b10, b11, b20, b21, b22, b23, b24, b30, b31, x70, x71, x72, x73, x74⟩ (fun hHeld => ?_)
       clear hK K
       try simp only [Act.put, qa, qb, qc, qD, qE, qF]
       refine qHk (v := ?_) 9 rfl (.inl ⟨by rfl, ?_⟩) ?_
       rotate_left
       ·
        (intro w hSw; (try dsimp only at hSw); go_simp; try with_reducible rfl)
       try simp only [Act.put, qa, qb, qc, qD, qE, qF]
       refine qHk (v := ?_) 10 rfl (.inl ⟨by rfl, ?_⟩) ?_
       rotate_left
       ·
        (intro w hSw; (try dsimp only at hSw); go_simp; try with_reducible rfl)
       try simp only [Act.put, qa, qb, qc, qD, qE, qF]
       refine qHk (v := ?_) 11 rfl (.inl ⟨by rfl, ?_⟩) ?_
       rotate_left
       ·
        (intro w hSw; (try dsimp only at hSw); go_simp; try with_reducible rfl)
       try simp only [Act.put, qa, qb, qc, qD, qE, qF]
       refine qHr 13 rfl (fun K hK => ?_)
       try simp only [Act.put, qa, qb, qc, qD, qE, qF]
       go_simp
       generalize hW8 : (((w3.setCell ⟨w2.heap.size, 0, none⟩ (.int .i64 PB)).setCell ⟨w2.heap.size, 1, none⟩ (.slice afv54u PS.length cfv54u)).setCell ⟨w2.heap.size, 2, none⟩ (.slice afv54v PT.length cfv54v)) = w4 at *
       have Kw4 : Chg (w2.heap.size) (w2.heap.size + 1) w3 w4 := by subst hW8; exact qCh
       have Xw4 : Ext w w4 := by subst hW8; exact qXt
       have BD3_w4 : Ext w2 w4 := by subst hW8; exact qXt
       have BL52_w4 : Ext w2 w4 := by subst hW8; exact qXt
       replace b10 := BL52_w4.cell Q51_b10.out
       replace b11 := BL52_w4.cell Q51_b11.out
       replace b20 := BL52_w4.cell Q51_b20.out
       replace b21 := BL52_w4.cell Q51_b21.out
       replace b22 := BL52_w4.cell Q51_b22.out
       replace b23 := BL52_w4.cell Q51_b23.out
       replace b24 := BL52_w4.cell Q51_b24.out
       replace b30 := BL52_w4.cell Q51_b30.out
       replace f_b30 := BL52_w4.frz Q51_zb3 Q51_f_b30.out
       replace b31 := BL52_w4.cell Q51_b31.out
       replace f_b31 := BL52_w4.frz Q51_zb3 Q51_f_b31.out
       replace x70 := BL52_w4.cell Q51_x70.out
       replace x71 := BL52_w4.cell Q51_x71.out
       replace x72 := BL52_w4.cell Q51_x72.out
       replace x73 := BL52_w4.cell Q51_x73.out
       replace x74 := BL52_w4.cell Q51_x74.out
       replace b530 : w4.cell? ⟨w2.heap.size, 0, none⟩ = some (.int .i64 PB) := by subst hW8; go_simp
       replace f_b530 : w4.frozen? ⟨w2.heap.size, 0, none⟩ = false := by subst hW8; first | (simp only [World.frozen?_setCell]; with_reducible assumption) | go_simp
       replace b531 : w4.cell? ⟨w2.heap.size, 1, none⟩ = some (.slice afv54u PS.length cfv54u) := by subst hW8; go_simp
       replace f_b531 : w4.frozen? ⟨w2.heap.size, 1, none⟩ = false := by subst hW8; first | (simp only [World.frozen?_setCell]; with_reducible assumption) | go_simp
       replace b532 : w4.cell? ⟨w2.heap.size, 2, none⟩ = some (.slice afv54v PT.length cfv54v) := by subst hW8; go_simp
       replace f_b532 : w4.frozen? ⟨w2.heap.size, 2, none⟩ = false := by subst hW8; first | (simp only [World.frozen?_setCell]; with_reducible assumption) | go_simp
       replace i55u := i55u.chg Kw4 (by omega)
       replace i55v := i55v.chg Kw4 (by omega)
       clear Kw4
       have z_b1 : w.heap.size < w4.heap.size := qB b10
       have z_b2 : w.heap.size + 1 < w4.heap.size := qB b20
       have z_b3 : w.heap.size + 1 + 1 < w4.heap.size := qB b30
       have z_x7 : bl20 < w4.heap.size := qB x70
       have z_b53 : w2.heap.size < w4.heap.size := qB b530
       have s_w4 : w.heap.size ≤ w4.heap.size := Xw4.size
       clear hW8
       refine hK.out _ _ ⟨b10, b11, b20, b21, b22, b23, b24, b30, b31, x70, x71, x72, x73, x74⟩ (fun hHeld => ?_)
       clear hK K
       try simp only [Act.put, qa, qb, qc, qD, qE, qF]
       refine qHk (v := ?_) 14 rfl (.inl ⟨by rfl, ?_⟩) ?_
       rotate_left
       ·
        (intro w hSw; (try dsimp only at hSw); go_simp; try with_reducible rfl)
       try simp only [Act.put, qa, qb, qc, qD, qE, qF]
       refine wpAnyH_done qKr ?_ _
       clear hHeld
       go_step
       go_step
       go_meet
       case rel => exact ⟨_, _, _, _, _, rfl, rfl, BD3_w4, (by omega), b530, b531, b532, f_b530, f_b531, f_b532, i55u.lower (by omega), i55v.lower (by omega)⟩
     case rest =>
      generalize wc = wc57 at hcut ⊢
      obtain ⟨g58, af62, cf63, af64, cf65, rfl, rfl, xx59, hg_b56, b560, b561, b562, f_b560, f_b561, f_b562, i60, i61⟩ := hcut
      have Lwc57 : Ext w2 wc57 := Ext.trans qXt xx59
      have Xwc57 : Ext w wc57 := Xw2.trans Lwc57
      replace b10 := Lwc57.cell b10
      replace b11 := Lwc57.cell b11
      replace b20 := Lwc57.cell b20
      replace b21 := Lwc57.cell b21
      replace b22 := Lwc57.cell b22
      replace b23 := Lwc57.cell b23
      replace b24 := Lwc57.cell b24
      replace b30 := Lwc57.cell b30
      replace b31 := Lwc57.cell b31
      replace f_b30 := Lwc57.frz z_b3 f_b30
      replace f_b31 := Lwc57.frz z_b3 f_b31
      replace x70 := Lwc57.cell x70
      replace x71 := Lwc57.cell x71
      replace x72 := Lwc57.cell x72
      replace x73 := Lwc57.cell x73
      replace x74 := Lwc57.cell x74
      have z_b1 : w.heap.size < wc57.heap.size := qB b10
      have z_b2 : w.heap.size + 1 < wc57.heap.size := qB b20
      have z_b3 : w.heap.size + 1 + 1 < wc57.heap.size := qB b30
      have z_x7 : bl20 < wc57.heap.size := qB x70
      have s_wc57 : w.heap.size ≤ wc57.heap.size := Xwc57.size
      clear xx59
      have z_b56 : g58 < wc57.heap.size := qB b560
      go_wp2_with fail
      have Q69_b10 := Lib.hid b10
      have Q69_b11 := Lib.hid b11
      have Q69_zb1 := z_b1
      have Q69_b20 := Lib.hid b20
      have Q69_b21 := Lib.hid b21
      have Q69_b22 := Lib.hid b22
      have Q69_b23 := Lib.hid b23
      have Q69_b24 := Lib.hid b24
      have Q69_zb2 := z_b2
      have Q69_b30 := Lib.hid b30
      have Q69_f_b30 := Lib.hid f_b30
      have Q69_b31 := Lib.hid b31
      have Q69_f_b31 := Lib.hid f_b31
      have Q69_zb3 := z_b3
      have Q69_x70 := Lib.hid x70
      have Q69_x71 := Lib.hid x71
      have Q69_x72 := Lib.hid x72
      have Q69_x73 := Lib.hid x73
      have Q69_x74 := Lib.hid x74
      have Q69_zx7 := z_x7
      have Q69_b560 := Lib.hid b560
      have Q69_f_b560 := Lib.hid f_b560
      have Q69_b561 := Lib.hid b561
      have Q69_f_b561 := Lib.hid f_b561
      have Q69_b562 := Lib.hid b562
      have Q69_f_b562 := Lib.hid f_b562
      have Q69_zb56 := z_b56
      have Q69_i60 := Lib.hid i60
      have Q69_i61 := Lib.hid i61
      have BL70 : Ext wc57 wc57 := Ext.refl _
      refine (added_c cells es (.slice p0 cells.length c0) (.slice (some ⟨bl20, ol21, none⟩) es.length c1) (k : Int) PB (.slice af62 PS.length cf63) (.slice af64 PT.length cf65) PS PT _ _ _ (h1.ext (Xwc57.trans qXt)) (h2.ext (Xwc57.trans qXt)) _ _ (i60.ext qXt) (i61.ext qXt) (by have h7 := hc6.out; omega)).mono ?_
      rintro e w3 ⟨cvfb67, evfb67, R68, rfl, bf66, xw3⟩
      have Lw3 : Ext wc57 w3 := Ext.trans qXt xw3
      have Xw3 : Ext w w3 := Xwc57.trans Lw3
      replace b10 := Lw3.cell b10
      replace b11 := Lw3.cell b11
      replace b20 := Lw3.cell b20
      replace b21 := Lw3.cell b21
      replace b22 := Lw3.cell b22
      replace b23 := Lw3.cell b23
      replace b24 := Lw3.cell b24
      replace b30 := Lw3.cell b30
      replace b31 := Lw3.cell b31
      replace f_b30 := Lw3.frz z_b3 f_b30
      replace f_b31 := Lw3.frz z_b3 f_b31
      replace x70 := Lw3.cell x70
      replace x71 := Lw3.cell x71
      replace x72 := Lw3.cell x72
      replace x73 := Lw3.cell x73
      replace x74 := Lw3.cell x74
      replace b560 := Lw3.cell b560
      replace b561 := Lw3.cell b561
      replace b562 := Lw3.cell b562
      replace f_b560 := Lw3.frz z_b56 f_b560
      replace f_b561 := Lw3.frz z_b56 f_b561
      replace f_b562 := Lw3.frz z_b56 f_b562
      have z_b1 : w.heap.size < w3.heap.size := qB b10
      have z_b2 : w.heap.size + 1 < w3.heap.size := qB b20
      have z_b3 : w.heap.size + 1 + 1 < w3.heap.size := qB b30
      have z_x7 : bl20 < w3.heap.size := qB x70
      have z_b56 : g58 < w3.heap.size := qB b560
      replace i60 := i60.ext Lw3
      replace i61 := i61.ext Lw3
      have s_w3 : w.heap.size ≤ w3.heap.size := Xw3.size
      have BL70_w3 : Ext wc57 w3 := BL70.trans Lw3
      clear xw3
      replace bf66 := bf66.lower (lo' := wc57.heap.size) qSo
      obtain ⟨afb67, cfb67, rfl⟩ := bf66.ints.form
      obtain ⟨efb67, dfb67, hEfb67⟩ := bf66.exps.form
      rw [List.length_append, List.length_singleton] at hEfb67
      subst hEfb67
      have q_bf66 := Lib.hid bf66.at
      go_wp2_with fail
      generalize hW9 : ((w3.setCell ⟨w.heap.size + 1 + 1, 0, none⟩ (.slice afb67 cells.length cfb67)).setCell ⟨w.heap.size + 1 + 1, 1, none⟩ (.slice efb67 (es.length + 1) dfb67)) = w4 at *
      have Kw4 : Chg (w.heap.size + 1 + 1) (w.heap.size + 1 + 1 + 1) w3 w4 := by subst hW9; exact qCh
      have Xw4 : Ext w w4 := by subst hW9; exact qXt
      replace b10 := Kw4.cell (by omega) b10
      replace b11 := Kw4.cell (by omega) b11
      replace b20 := Kw4.cell (by omega) b20
      replace b21 := Kw4.cell (by omega) b21
      replace b22 := Kw4.cell (by omega) b22
      replace b23 := Kw4.cell (by omega) b23
      replace b24 := Kw4.cell (by omega) b24
      replace b30 : w4.cell? ⟨w.heap.size + 1 + 1, 0, none⟩ = some (.slice afb67 cells.length cfb67) := by subst hW9; go_simp
      replace f_b30 : w4.frozen? ⟨w.heap.size + 1 + 1, 0, none⟩ = false := by subst hW9; first | (simp only [World.frozen?_setCell]; with_reducible assumption) | go_simp
      replace b31 : w4.cell? ⟨w.heap.size + 1 + 1, 1, none⟩ = some (.slice efb67 (es.length + 1) dfb67) := by subst hW9; go_simp
      replace f_b31 : w4.frozen? ⟨w.heap.size + 1 + 1, 1, none⟩ = false := by subst hW9; first | (simp only [World.frozen?_setCell]; with_reducible assumption) | go_simp
      replace x70 := Kw4.cell (by omega) x70
      replace x71 := Kw4.cell (by omega) x71
      replace x72 := Kw4.cell (by omega) x72
      replace x73 := Kw4.cell (by omega) x73
      replace x74 := Kw4.cell (by omega) x74
      replace b560 := Kw4.cell (by omega) b560
      replace f_b560 := Kw4.frzO (by omega) z_b56 f_b560
      replace b561 := Kw4.cell (by omega) b561
      replace f_b561 := Kw4.frzO (by omega) z_b56 f_b561
      replace b562 := Kw4.cell (by omega) b562
      replace f_b562 := Kw4.frzO (by omega) z_b56 f_b562
      replace i60 := i60.chg Kw4 (by omega)
      replace i61 := i61.chg Kw4 (by omega)
      replace bf66 := bf66.chg Kw4 (by omega)
      clear Kw4
      have z_b1 : w.heap.size < w4.heap.size := qB b10
      have z_b2 : w.heap.size + 1 < w4.heap.size := qB b20
      have z_b3 : w.heap.size + 1 + 1 < w4.heap.size := qB b30
      have z_x7 : bl20 < w4.heap.size := qB x70
      have z_b56 : g58 < w4.heap.size := qB b560
      have s_w4 : w.heap.size ≤ w4.heap.size := Xw4.size
      clear hW9
      refine bodyPost_ret (v := .tuple #[.agg #[.slice afb67 cells.length cfb67, .slice efb67 (es.length + 1) dfb67], .bool true]) (by simp only [results, Try.results87]; go_simp) rfl ?_
      have eqA : parA cells es (k : Int) d F T B hf ht = (cells, es ++ [⟨(k : Int), PB, PS, PT, true⟩], true) := by unfold parA; simp only [Int.toNat_natCast]; rw [hX13.out]; dsimp only; rw [hP.out, hbb.out, hop.out, decide_eq_true (show es.length < 8 from (by have h7 := hc6.out; omega))]; rfl
      exact PBX.yes eqA ((bf66.ext qXt).lower (by omega)) (Xw4.trans qXt)

end Go.Proofs.Ytgklaobfikbiiaa

/- Walks: acts of the reference. -/
namespace Go.Proofs.Ytgklaobfikbiiaa
open Go.RowKit
set_option linter.unusedVariables false
set_option maxRecDepth 100000

set_option maxHeartbeats 3200000 in
theorem done_0 (cells : List Int) (es : List Exp) (cv ev : Value) (ns : List Int) (nv : Value) (w : World) (l1 l2 : Nat) (h1 : Ints w l1 cv cells) (h2 : Exps w l2 ev es) (l3 : Nat) (h3 : Ints w l3 nv ns) (hl : 1 ≤ ns.length) :
  Calls Try.prog 81 #[.agg #[cv, ev], .agg #[.int .i64 0, nv]] w (PBX w (resA cells es (ns.getD 0 0))) := by
 obtain ⟨p0, c0, rfl⟩ := h1.form
 obtain ⟨p1, c1, rfl⟩ := h2.form
 have he1 := h2.len
 have hc1 := h1.len
 obtain ⟨pn, cn, rfl⟩ := h3.form
 have hl0 : 0 < ns.length := by omega
 go_enter Try.func81, Try.ntmps81
 go_wp2_with fail
 generalize hW1 : ((w.alloc (.cells #[.slice p0 cells.length c0, .slice p1 es.length c1] 26)).alloc (.cells #[.int .i64 0, .slice pn ns.length cn] 69)).alloc (.cells #[.slice none 0 0, .slice none 0 0] 26) = w1 at *
 have Lw1 : Ext w w1 := by subst hW1; exact qXt
 have Xw1 : Ext w w1 := by subst hW1; exact Lw1
 have b10 : w1.cell? ⟨w.heap.size, 0, none⟩ = some (.slice p0 cells.length c0) := by subst hW1; exact qCl
 have b11 : w1.cell? ⟨w.heap.size, 1, none⟩ = some (.slice p1 es.length c1) := by subst hW1; exact qCl
 have b20 : w1.cell? ⟨w.heap.size + 1, 0, none⟩ = some (.int .i64 0) := by subst hW1; exact qCl
 have b21 : w1.cell? ⟨w.heap.size + 1, 1, none⟩ = some (.slice pn ns.length cn) := by subst hW1; exact qCl
 have b30 : w1.cell? ⟨w.heap.size + 1 + 1, 0, none⟩ = some (.slice none 0 0) := by subst hW1; exact qCl
 have b31 : w1.cell? ⟨w.heap.size + 1 + 1, 1, none⟩ = some (.slice none 0 0) := by subst hW1; exact qCl
 have f_b30 : w1.frozen? ⟨w.heap.size + 1 + 1, 0, none⟩ = false := by subst hW1; exact qFz
 have f_b31 : w1.frozen? ⟨w.heap.size + 1 + 1, 1, none⟩ = false := by subst hW1; exact qFz
 have z_b1 : w.heap.size < w1.heap.size := qB b10
 have z_b2 : w.heap.size + 1 < w1.heap.size := qB b20
 have z_b3 : w.heap.size + 1 + 1 < w1.heap.size := qB b30
 have s_w1 : w.heap.size ≤ w1.heap.size := Xw1.size
 clear hW1
 have hI_e6 : (0 : Int) < (ns.length : Int) := by have hB7 : 0 < ns.length := (by omega); omega
 obtain ⟨bl4, ol5, rfl, e60⟩ := h3.at 0 (by omega)
 rw [Nat.add_zero] at e60
 have y_e6 : bl4 < w.heap.size := qB e60
 replace e60 := Xw1.cell e60
 obtain ⟨v7, hv7⟩ : ∃ v, ns.getD 0 0 = v := ⟨_, rfl⟩
 rw [hv7] at e60
 replace hv7 := Lib.hid hv7
 have z_e6 : bl4 < w1.heap.size := qB e60
 refine wp_region_tail (S := fun w' => w'.cell? ⟨w.heap.size, 0, none⟩ = some (.slice p0 cells.length c0) ∧ w'.cell? ⟨w.heap.size, 1, none⟩ = some (.slice p1 es.length c1) ∧ w'.cell? ⟨bl4, ol5, none⟩ = some (.int .i64 v7)) (fun i => decide (7 ≤ i)) qKr ⟨b10, b11, e60⟩ (fun hHeld => ?_)
 refine qTk (v := ?_) 0 rfl (.inl ⟨by rfl, ?_⟩) ?_
 rotate_left
 ·
  (intro w hSw; (try dsimp only at hSw); go_simp; try with_reducible rfl)
 try simp only [Act.put, qa, qb, qc, qD, qE, qF]
 refine qTk (v := ?_) 1 rfl (.inl ⟨by rfl, ?_⟩) ?_
 rotate_left
 ·
  (intro w hSw; (try dsimp only at hSw); go_simp; try with_reducible rfl)
 try simp only [Act.put, qa, qb, qc, qD, qE, qF]
 refine qTk (v := ?_) 2 rfl (.inl ⟨by rfl, ?_⟩) ?_
 rotate_left
 ·
  (intro w hSw; (try dsimp only at hSw); go_simp; try with_reducible rfl)
 try simp only [Act.put, qa, qb, qc, qD, qE, qF]
 refine qTk (v := ?_) 3 rfl (.inl ⟨by rfl, ?_⟩) ?_
 rotate_left
 ·
  (intro w hSw; (try dsimp only at hSw); go_simp; try with_reducible rfl)
 try simp only [Act.put, qa, qb, qc, qD, qE, qF]
 refine wpTail_one (i := 4) qKr rfl rfl (fun K hK => ?_)
 try simp only [Act.put, qa, qb, qc, qD, qE, qF]
 go_simp
 refine (specResizeBuffer_c cells es (.slice p0 cells.length c0) (.slice p1 es.length c1) v7 _ _ _ (h1.ext (Xw1.trans qXt)) (h2.ext (Xw1.trans qXt))).mono ?_
 rintro e w2 ⟨cvfb12, evfb12, R13, rfl, bf11, xw2⟩
 have Lw2 : Ext w1 w2 := Ext.trans qXt xw2
 have Xw2 : Ext w w2 := Xw1.trans Lw2
 replace b10 := Lw2.cell b10
 replace b11 := Lw2.cell b11
 replace b20 := Lw2.cell b20
 replace b21 := Lw2.cell b21
 replace b30 := Lw2.cell b30
 replace b31 := Lw2.cell b31
 replace f_b30 := Lw2.frz z_b3 f_b30
 replace f_b31 := Lw2.frz z_b3 f_b31
 replace e60 := Lw2.cell e60
 have z_b1 : w.heap.size < w2.heap.size := qB b10
 have z_b2 : w.heap.size + 1 < w2.heap.size := qB b20
 have z_b3 : w.heap.size + 1 + 1 < w2.heap.size := qB b30
 have z_e6 : bl4 < w2.heap.size := qB e60
 have s_w2 : w.heap.size ≤ w2.heap.size := Xw2.size
 clear xw2
 replace bf11 := bf11.lower (lo' := w1.heap.size) qSo
 obtain ⟨afb12, cfb12, rfl⟩ := bf11.ints.form
 obtain ⟨efb12, dfb12, rfl⟩ := bf11.exps.form
 have q_bf11 := Lib.hid bf11.at
 refine hK.out _ _ ⟨b10, b11, e60⟩ (fun hHeld => ?_)
 clear hK K
 try simp only [Act.put, qa, qb, qc, qD, qE, qF]
 refine qTk (v := ?_) 5 rfl (.inl ⟨by rfl, ?_⟩) ?_
 rotate_left
 ·
  (intro w hSw; (try dsimp only at hSw); go_simp; try with_reducible rfl)
 try simp only [Act.put, qa, qb, qc, qD, qE, qF]
 refine qTk (v := ?_) 6 rfl (.inl ⟨by rfl, ?_⟩) ?_
 rotate_left
 ·
  (intro w hSw; (try dsimp only at hSw); go_simp; try with_reducible rfl)
 try simp only [Act.put, qa, qb, qc, qD, qE, qF]
 refine wpTail_last (i := 7) qKr rfl rfl (fun K hK => ?_)
 try simp only [Act.put, qa, qb, qc, qD, qE, qF]
 go_simp
 refine hK.out _ _ ?_
 clear hK K
 try simp only [Act.put, qa, qb, qc, qD, qE, qF]
 refine wpTail_last (i := 8) qKr rfl rfl (fun K hK => ?_)
 try simp only [Act.put, qa, qb, qc, qD, qE, qF]
 go_simp
 refine hK.out _ _ ?_
 clear hK K
 try simp only [Act.put, qa, qb, qc, qD, qE, qF]
 refine wpTail_done qKr ?_ _
 clear hHeld 
 generalize hW2 : ((w2.setCell ⟨w.heap.size + 1 + 1, 0, none⟩ (.slice afb12 (((resA cells es v7).1).length) cfb12)).setCell ⟨w.heap.size + 1 + 1, 1, none⟩ (.slice efb12 (((resA cells es v7).2.1).length) dfb12)) = w3 at *
 have Kw3 : Chg (w.heap.size + 1 + 1) (w.heap.size + 1 + 1 + 1) w2 w3 := by subst hW2; exact qCh
 have Xw3 : Ext w w3 := by subst hW2; exact qXt
 replace b10 := Kw3.cell (by omega) b10
 replace b11 := Kw3.cell (by omega) b11
 replace b20 := Kw3.cell (by omega) b20
 replace b21 := Kw3.cell (by omega) b21
 replace b30 : w3.cell? ⟨w.heap.size + 1 + 1, 0, none⟩ = some (.slice afb12 (((resA cells es v7).1).length) cfb12) := by subst hW2; go_simp
 replace f_b30 : w3.frozen? ⟨w.heap.size + 1 + 1, 0, none⟩ = false := by subst hW2; first | (simp only [World.frozen?_setCell]; with_reducible assumption) | go_simp
 replace b31 : w3.cell? ⟨w.heap.size + 1 + 1, 1, none⟩ = some (.slice efb12 (((resA cells es v7).2.1).length) dfb12) := by subst hW2; go_simp
 replace f_b31 : w3.frozen? ⟨w.heap.size + 1 + 1, 1, none⟩ = false := by subst hW2; first | (simp only [World.frozen?_setCell]; with_reducible assumption) | go_simp
 replace e60 := Kw3.cell (by omega) e60
 replace bf11 := bf11.chg Kw3 (by omega)
 clear Kw3
 have z_b1 : w.heap.size < w3.heap.size := qB b10
 have z_b2 : w.heap.size + 1 < w3.heap.size := qB b20
 have z_b3 : w.heap.size + 1 + 1 < w3.heap.size := qB b30
 have z_e6 : bl4 < w3.heap.size := qB e60
 have s_w3 : w.heap.size ≤ w3.heap.size := Xw3.size
 clear hW2
 go_wp2_with fail
 refine bodyPost_ret (v := .tuple #[.agg #[.slice afb12 (((resA cells es v7).1).length) cfb12, .slice efb12 (((resA cells es v7).2.1).length) dfb12], .bool ((resA cells es v7).2.2)]) (by simp only [results, Try.results81]; go_simp) rfl ?_
 rw [hv7.out]
 exact ⟨_, _, _, rfl, (bf11.ext qXt).lower (by omega), (Xw3.trans qXt)⟩

set_option maxHeartbeats 3200000 in
theorem done_2 (cells : List Int) (es : List Exp) (cv ev : Value) (ns : List Int) (nv : Value) (w : World) (l1 l2 : Nat) (h1 : Ints w l1 cv cells) (h2 : Exps w l2 ev es) (l3 : Nat) (h3 : Ints w l3 nv ns) (hl : 4 ≤ ns.length) :
  Calls Try.prog 81 #[.agg #[cv, ev], .agg #[.int .i64 2, nv]] w (PBX w (parA cells es (ns.getD 0 0) 0 (ns.getD 1 0) (ns.getD 2 0) (ns.getD 3 0) true true)) := by
 obtain ⟨p0, c0, rfl⟩ := h1.form
 obtain ⟨p1, c1, rfl⟩ := h2.form
 have he1 := h2.len
 have hc1 := h1.len
 obtain ⟨pn, cn, rfl⟩ := h3.form
 have hl0 : 0 < ns.length := by omega
 have hl1 : 1 < ns.length := by omega
 have hl2 : 2 < ns.length := by omega
 have hl3 : 3 < ns.length := by omega
 go_enter Try.func81, Try.ntmps81
 go_wp2_with fail
 generalize hW3 : ((w.alloc (.cells #[.slice p0 cells.length c0, .slice p1 es.length c1] 26)).alloc (.cells #[.int .i64 2, .slice pn ns.length cn] 69)).alloc (.cells #[.slice none 0 0, .slice none 0 0] 26) = w1 at *
 have Lw1 : Ext w w1 := by subst hW3; exact qXt
 have Xw1 : Ext w w1 := by subst hW3; exact Lw1
 have b10 : w1.cell? ⟨w.heap.size, 0, none⟩ = some (.slice p0 cells.length c0) := by subst hW3; exact qCl
 have b11 : w1.cell? ⟨w.heap.size, 1, none⟩ = some (.slice p1 es.length c1) := by subst hW3; exact qCl
 have b20 : w1.cell? ⟨w.heap.size + 1, 0, none⟩ = some (.int .i64 2) := by subst hW3; exact qCl
 have b21 : w1.cell? ⟨w.heap.size + 1, 1, none⟩ = some (.slice pn ns.length cn) := by subst hW3; exact qCl
 have b30 : w1.cell? ⟨w.heap.size + 1 + 1, 0, none⟩ = some (.slice none 0 0) := by subst hW3; exact qCl
 have b31 : w1.cell? ⟨w.heap.size + 1 + 1, 1, none⟩ = some (.slice none 0 0) := by subst hW3; exact qCl
 have f_b30 : w1.frozen? ⟨w.heap.size + 1 + 1, 0, none⟩ = false := by subst hW3; exact qFz
 have f_b31 : w1.frozen? ⟨w.heap.size + 1 + 1, 1, none⟩ = false := by subst hW3; exact qFz
 have z_b1 : w.heap.size < w1.heap.size := qB b10
 have z_b2 : w.heap.size + 1 < w1.heap.size := qB b20
 have z_b3 : w.heap.size + 1 + 1 < w1.heap.size := qB b30
 have s_w1 : w.heap.size ≤ w1.heap.size := Xw1.size
 clear hW3
 have hI_e6 : (0 : Int) < (ns.length : Int) := by have hB7 : 0 < ns.length := (by omega); omega
 obtain ⟨bl4, ol5, rfl, e60⟩ := h3.at 0 (by omega)
 rw [Nat.add_zero] at e60
 have y_e6 : bl4 < w.heap.size := qB e60
 replace e60 := Xw1.cell e60
 obtain ⟨v7, hv7⟩ : ∃ v, ns.getD 0 0 = v := ⟨_, rfl⟩
 rw [hv7] at e60
 replace hv7 := Lib.hid hv7
 have z_e6 : bl4 < w1.heap.size := qB e60
 have hI_e10 : (1 : Int) < (ns.length : Int) := by have hB7 : 1 < ns.length := (by omega); omega
 obtain ⟨b_e10, o_e10, h_e10, e100⟩ := h3.at 1 (by omega)
 cases h_e10
 have y_e10 : bl4 < w.heap.size := qB e100
 replace e100 := Xw1.cell e100
 obtain ⟨v11, hv11⟩ : ∃ v, ns.getD 1 0 = v := ⟨_, rfl⟩
 rw [hv11] at e100
 replace hv11 := Lib.hid hv11
 have z_e10 : bl4 < w1.heap.size := qB e100
 have hI_e14 : (2 : Int) < (ns.length : Int) := by have hB7 : 2 < ns.length := (by omega); omega
 obtain ⟨b_e14, o_e14, h_e14, e140⟩ := h3.at 2 (by omega)
 cases h_e14
 have y_e14 : bl4 < w.heap.size := qB e140
 replace e140 := Xw1.cell e140
 obtain ⟨v15, hv15⟩ : ∃ v, ns.getD 2 0 = v := ⟨_, rfl⟩
 rw [hv15] at e140
 replace hv15 := Lib.hid hv15
 have z_e14 : bl4 < w1.heap.size := qB e140
 have hI_e18 : (3 : Int) < (ns.length : Int) := by have hB7 : 3 < ns.length := (by omega); omega
 obtain ⟨b_e18, o_e18, h_e18, e180⟩ := h3.at 3 (by omega)
 cases h_e18
 have y_e18 : bl4 < w.heap.size := qB e180
 replace e180 := Xw1.cell e180
 obtain ⟨v19, hv19⟩ : ∃ v, ns.getD 3 0 = v := ⟨_, rfl⟩
 rw [hv19] at e180
 replace hv19 := Lib.hid hv19
 have z_e18 : bl4 < w1.heap.size := qB e180
 refine wp_region_tail (S := fun w' => w'.cell? ⟨w.heap.size, 0, none⟩ = some (.slice p0 cells.length c0) ∧ w'.cell? ⟨w.heap.size, 1, none⟩ = some (.slice p1 es.length c1) ∧ w'.cell? ⟨bl4, ol5, none⟩ = some (.int .i64 v7) ∧ w'.cell? ⟨bl4, ol5 + 1, none⟩ = some (.int .i64 v11) ∧ w'.cell? ⟨bl4, ol5 + 2, none⟩ = some (.int .i64 v15) ∧ w'.cell? ⟨bl4, ol5 + 3, none⟩ = some (.int .i64 v19)) (fun i => decide (17 ≤ i)) qKr ⟨b10, b11, e60, e100, e140, e180⟩ (fun hHeld => ?_)
 refine qTk (v := ?_) 0 rfl (.inl ⟨by rfl, ?_⟩) ?_
 rotate_left
 ·
  (intro w hSw; (try dsimp only at hSw); go_simp; try with_reducible rfl)
 try simp only [Act.put, qa, qb, qc, qD, qE, qF]
 refine qTk (v := ?_) 1 rfl (.inl ⟨by rfl, ?_⟩) ?_
 rotate_left
 ·
  (intro w hSw; (try dsimp only at hSw); go_simp; try with_reducible rfl)
 try simp only [Act.put, qa, qb, qc, qD, qE, qF]
 refine qTk (v := ?_) 2 rfl (.inl ⟨by rfl, ?_⟩) ?_
 rotate_left
 ·
  (intro w hSw; (try dsimp only at hSw); go_simp; try with_reducible rfl)
 try simp only [Act.put, qa, qb, qc, qD, qE, qF]
 refine qTk (v := ?_) 3 rfl (.inl ⟨by rfl, ?_⟩) ?_
 rotate_left
 ·
  (intro w hSw; (try dsimp only at hSw); go_simp; try with_reducible rfl)
 try simp only [Act.put, qa, qb, qc, qD, qE, qF]
 refine qTk (v := ?_) 4 rfl (.inl ⟨by rfl, ?_⟩) ?_
 rotate_left
 ·
  (intro w hSw; (try dsimp only at hSw); go_simp; try with_reducible rfl)
 try simp only [Act.put, qa, qb, qc, qD, qE, qF]
 refine qTk (v := ?_) 5 rfl (.inl ⟨by rfl, ?_⟩) ?_
 rotate_left
 ·
  (intro w hSw; (try dsimp only at hSw); go_simp; try with_reducible rfl)
 try simp only [Act.put, qa, qb, qc, qD, qE, qF]
 refine qTk (v := ?_) 6 rfl (.inl ⟨by rfl, ?_⟩) ?_
 rotate_left
 ·
  (intro w hSw; (try dsimp only at hSw); go_simp; try with_reducible rfl)
 try simp only [Act.put, qa, qb, qc, qD, qE, qF]
 refine qTk (v := ?_) 7 rfl (.inl ⟨by rfl, ?_⟩) ?_
 rotate_left
 ·
  (intro w hSw; (try dsimp only at hSw); go_simp; try with_reducible rfl)
 try simp only [Act.put, qa, qb, qc, qD, qE, qF]
 refine qTk (v := ?_) 8 rfl (.inl ⟨by rfl, ?_⟩) ?_
 rotate_left
 ·
  (intro w hSw; (try dsimp only at hSw); go_simp; try with_reducible rfl)
 try simp only [Act.put, qa, qb, qc, qD, qE, qF]
 refine qTk (v := ?_) 9 rfl (.inl ⟨by rfl, ?_⟩) ?_
 rotate_left
 ·
  (intro w hSw; (try dsimp only at hSw); go_simp; try with_reducible rfl)
 try simp only [Act.put, qa, qb, qc, qD, qE, qF]
 refine qTk (v := ?_) 10 rfl (.inl ⟨by rfl, ?_⟩) ?_
 rotate_left
 ·
  (intro w hSw; (try dsimp only at hSw); go_simp; try with_reducible rfl)
 try simp only [Act.put, qa, qb, qc, qD, qE, qF]
 refine qTk (v := ?_) 11 rfl (.inl ⟨by rfl, ?_⟩) ?_
 rotate_left
 ·
  (intro w hSw; (try dsimp only at hSw); go_simp; try with_reducible rfl)
 try simp only [Act.put, qa, qb, qc, qD, qE, qF]
 refine qTk (v := ?_) 12 rfl (.inl ⟨by rfl, ?_⟩) ?_
 rotate_left
 ·
  (intro w hSw; (try dsimp only at hSw); go_simp; try with_reducible rfl)
 try simp only [Act.put, qa, qb, qc, qD, qE, qF]
 refine qTk (v := ?_) 13 rfl (.inl ⟨by rfl, ?_⟩) ?_
 rotate_left
 ·
  (intro w hSw; (try dsimp only at hSw); go_simp; try with_reducible rfl)
 try simp only [Act.put, qa, qb, qc, qD, qE, qF]
 refine wpTail_one (i := 14) qKr rfl rfl (fun K hK => ?_)
 try simp only [Act.put, qa, qb, qc, qD, qE, qF]
 go_simp
 refine (specExportPart_c cells es (.slice p0 cells.length c0) (.slice p1 es.length c1) v7 0 v11 v15 v19 true true _ _ _ (h1.ext (Xw1.trans qXt)) (h2.ext (Xw1.trans qXt))).mono ?_
 rintro e w2 ⟨cvfb33, evfb33, R34, rfl, bf32, xw2⟩
 have Lw2 : Ext w1 w2 := Ext.trans qXt xw2
 have Xw2 : Ext w w2 := Xw1.trans Lw2
 replace b10 := Lw2.cell b10
 replace b11 := Lw2.cell b11
 replace b20 := Lw2.cell b20
 replace b21 := Lw2.cell b21
 replace b30 := Lw2.cell b30
 replace b31 := Lw2.cell b31
 replace f_b30 := Lw2.frz z_b3 f_b30
 replace f_b31 := Lw2.frz z_b3 f_b31
 replace e60 := Lw2.cell e60
 replace e100 := Lw2.cell e100
 replace e140 := Lw2.cell e140
 replace e180 := Lw2.cell e180
 have z_b1 : w.heap.size < w2.heap.size := qB b10
 have z_b2 : w.heap.size + 1 < w2.heap.size := qB b20
 have z_b3 : w.heap.size + 1 + 1 < w2.heap.size := qB b30
 have z_e6 : bl4 < w2.heap.size := qB e60
 have z_e10 : bl4 < w2.heap.size := qB e100
 have z_e14 : bl4 < w2.heap.size := qB e140
 have z_e18 : bl4 < w2.heap.size := qB e180
 have s_w2 : w.heap.size ≤ w2.heap.size := Xw2.size
 clear xw2
 replace bf32 := bf32.lower (lo' := w1.heap.size) qSo
 obtain ⟨afb33, cfb33, rfl⟩ := bf32.ints.form
 obtain ⟨efb33, dfb33, rfl⟩ := bf32.exps.form
 have q_bf32 := Lib.hid bf32.at
 refine hK.out _ _ ⟨b10, b11, e60, e100, e140, e180⟩ (fun hHeld => ?_)
 clear hK K
 try simp only [Act.put, qa, qb, qc, qD, qE, qF]
 refine qTk (v := ?_) 15 rfl (.inl ⟨by rfl, ?_⟩) ?_
 rotate_left
 ·
  (intro w hSw; (try dsimp only at hSw); go_simp; try with_reducible rfl)
 try simp only [Act.put, qa, qb, qc, qD, qE, qF]
 refine qTk (v := ?_) 16 rfl (.inl ⟨by rfl, ?_⟩) ?_
 rotate_left
 ·
  (intro w hSw; (try dsimp only at hSw); go_simp; try with_reducible rfl)
 try simp only [Act.put, qa, qb, qc, qD, qE, qF]
 refine wpTail_last (i := 17) qKr rfl rfl (fun K hK => ?_)
 try simp only [Act.put, qa, qb, qc, qD, qE, qF]
 go_simp
 refine hK.out _ _ ?_
 clear hK K
 try simp only [Act.put, qa, qb, qc, qD, qE, qF]
 refine wpTail_last (i := 18) qKr rfl rfl (fun K hK => ?_)
 try simp only [Act.put, qa, qb, qc, qD, qE, qF]
 go_simp
 refine hK.out _ _ ?_
 clear hK K
 try simp only [Act.put, qa, qb, qc, qD, qE, qF]
 refine wpTail_done qKr ?_ _
 clear hHeld 
 generalize hW4 : ((w2.setCell ⟨w.heap.size + 1 + 1, 0, none⟩ (.slice afb33 (((parA cells es v7 0 v11 v15 v19 true true).1).length) cfb33)).setCell ⟨w.heap.size + 1 + 1, 1, none⟩ (.slice efb33 (((parA cells es v7 0 v11 v15 v19 true true).2.1).length) dfb33)) = w3 at *
 have Kw3 : Chg (w.heap.size + 1 + 1) (w.heap.size + 1 + 1 + 1) w2 w3 := by subst hW4; exact qCh
 have Xw3 : Ext w w3 := by subst hW4; exact qXt
 replace b10 := Kw3.cell (by omega) b10
 replace b11 := Kw3.cell (by omega) b11
 replace b20 := Kw3.cell (by omega) b20
 replace b21 := Kw3.cell (by omega) b21
 replace b30 : w3.cell? ⟨w.heap.size + 1 + 1, 0, none⟩ = some (.slice afb33 (((parA cells es v7 0 v11 v15 v19 true true).1).length) cfb33) := by subst hW4; go_simp
 replace f_b30 : w3.frozen? ⟨w.heap.size + 1 + 1, 0, none⟩ = false := by subst hW4; first | (simp only [World.frozen?_setCell]; with_reducible assumption) | go_simp
 replace b31 : w3.cell? ⟨w.heap.size + 1 + 1, 1, none⟩ = some (.slice efb33 (((parA cells es v7 0 v11 v15 v19 true true).2.1).length) dfb33) := by subst hW4; go_simp
 replace f_b31 : w3.frozen? ⟨w.heap.size + 1 + 1, 1, none⟩ = false := by subst hW4; first | (simp only [World.frozen?_setCell]; with_reducible assumption) | go_simp
 replace e60 := Kw3.cell (by omega) e60
 replace e100 := Kw3.cell (by omega) e100
 replace e140 := Kw3.cell (by omega) e140
 replace e180 := Kw3.cell (by omega) e180
 replace bf32 := bf32.chg Kw3 (by omega)
 clear Kw3
 have z_b1 : w.heap.size < w3.heap.size := qB b10
 have z_b2 : w.heap.size + 1 < w3.heap.size := qB b20
 have z_b3 : w.heap.size + 1 + 1 < w3.heap.size := qB b30
 have z_e6 : bl4 < w3.heap.size := qB e60
 have z_e10 : bl4 < w3.heap.size := qB e100
 have z_e14 : bl4 < w3.heap.size := qB e140
 have z_e18 : bl4 < w3.heap.size := qB e180
 have s_w3 : w.heap.size ≤ w3.heap.size := Xw3.size
 clear hW4
 go_wp2_with fail
 refine bodyPost_ret (v := .tuple #[.agg #[.slice afb33 (((parA cells es v7 0 v11 v15 v19 true true).1).length) cfb33, .slice efb33 (((parA cells es v7 0 v11 v15 v19 true true).2.1).length) dfb33], .bool ((parA cells es v7 0 v11 v15 v19 true true).2.2)]) (by simp only [results, Try.results81]; go_simp) rfl ?_
 rw [hv7.out, hv11.out, hv15.out, hv19.out]
 exact ⟨_, _, _, rfl, (bf32.ext qXt).lower (by omega), (Xw3.trans qXt)⟩

set_option maxHeartbeats 3200000 in
theorem done_3 (cells : List Int) (es : List Exp) (cv ev : Value) (ns : List Int) (nv : Value) (w : World) (l1 l2 : Nat) (h1 : Ints w l1 cv cells) (h2 : Exps w l2 ev es) (l3 : Nat) (h3 : Ints w l3 nv ns) (hl : 1 ≤ ns.length) :
  Calls Try.prog 81 #[.agg #[cv, ev], .agg #[.int .i64 3, nv]] w (PBX w (parA cells es (ns.getD 0 0) 0 0 0 (-1) false false)) := by
 obtain ⟨p0, c0, rfl⟩ := h1.form
 obtain ⟨p1, c1, rfl⟩ := h2.form
 have he1 := h2.len
 have hc1 := h1.len
 obtain ⟨pn, cn, rfl⟩ := h3.form
 have hl0 : 0 < ns.length := by omega
 go_enter Try.func81, Try.ntmps81
 go_wp2_with fail
 generalize hW5 : ((w.alloc (.cells #[.slice p0 cells.length c0, .slice p1 es.length c1] 26)).alloc (.cells #[.int .i64 3, .slice pn ns.length cn] 69)).alloc (.cells #[.slice none 0 0, .slice none 0 0] 26) = w1 at *
 have Lw1 : Ext w w1 := by subst hW5; exact qXt
 have Xw1 : Ext w w1 := by subst hW5; exact Lw1
 have b10 : w1.cell? ⟨w.heap.size, 0, none⟩ = some (.slice p0 cells.length c0) := by subst hW5; exact qCl
 have b11 : w1.cell? ⟨w.heap.size, 1, none⟩ = some (.slice p1 es.length c1) := by subst hW5; exact qCl
 have b20 : w1.cell? ⟨w.heap.size + 1, 0, none⟩ = some (.int .i64 3) := by subst hW5; exact qCl
 have b21 : w1.cell? ⟨w.heap.size + 1, 1, none⟩ = some (.slice pn ns.length cn) := by subst hW5; exact qCl
 have b30 : w1.cell? ⟨w.heap.size + 1 + 1, 0, none⟩ = some (.slice none 0 0) := by subst hW5; exact qCl
 have b31 : w1.cell? ⟨w.heap.size + 1 + 1, 1, none⟩ = some (.slice none 0 0) := by subst hW5; exact qCl
 have f_b30 : w1.frozen? ⟨w.heap.size + 1 + 1, 0, none⟩ = false := by subst hW5; exact qFz
 have f_b31 : w1.frozen? ⟨w.heap.size + 1 + 1, 1, none⟩ = false := by subst hW5; exact qFz
 have z_b1 : w.heap.size < w1.heap.size := qB b10
 have z_b2 : w.heap.size + 1 < w1.heap.size := qB b20
 have z_b3 : w.heap.size + 1 + 1 < w1.heap.size := qB b30
 have s_w1 : w.heap.size ≤ w1.heap.size := Xw1.size
 clear hW5
 have hI_e6 : (0 : Int) < (ns.length : Int) := by have hB7 : 0 < ns.length := (by omega); omega
 obtain ⟨bl4, ol5, rfl, e60⟩ := h3.at 0 (by omega)
 rw [Nat.add_zero] at e60
 have y_e6 : bl4 < w.heap.size := qB e60
 replace e60 := Xw1.cell e60
 obtain ⟨v7, hv7⟩ : ∃ v, ns.getD 0 0 = v := ⟨_, rfl⟩
 rw [hv7] at e60
 replace hv7 := Lib.hid hv7
 have z_e6 : bl4 < w1.heap.size := qB e60
 refine wp_region_tail (S := fun w' => w'.cell? ⟨w.heap.size, 0, none⟩ = some (.slice p0 cells.length c0) ∧ w'.cell? ⟨w.heap.size, 1, none⟩ = some (.slice p1 es.length c1) ∧ w'.cell? ⟨bl4, ol5, none⟩ = some (.int .i64 v7)) (fun i => decide (8 ≤ i)) qKr ⟨b10, b11, e60⟩ (fun hHeld => ?_)
 refine qTk (v := ?_) 0 rfl (.inl ⟨by rfl, ?_⟩) ?_
 rotate_left
 ·
  (intro w hSw; (try dsimp only at hSw); go_simp; try with_reducible rfl)
 try simp only [Act.put, qa, qb, qc, qD, qE, qF]
 refine qTk (v := ?_) 1 rfl (.inl ⟨by rfl, ?_⟩) ?_
 rotate_left
 ·
  (intro w hSw; (try dsimp only at hSw); go_simp; try with_reducible rfl)
 try simp only [Act.put, qa, qb, qc, qD, qE, qF]
 refine qTk (v := ?_) 2 rfl (.inl ⟨by rfl, ?_⟩) ?_
 rotate_left
 ·
  (intro w hSw; (try dsimp only at hSw); go_simp; try with_reducible rfl)
 try simp only [Act.put, qa, qb, qc, qD, qE, qF]
 refine qTk (v := ?_) 3 rfl (.inl ⟨by rfl, ?_⟩) ?_
 rotate_left
 ·
  (intro w hSw; (try dsimp only at hSw); go_simp; try with_reducible rfl)
 try simp only [Act.put, qa, qb, qc, qD, qE, qF]
 refine qTk (v := ?_) 4 rfl (.inl ⟨by rfl, ?_⟩) ?_
 rotate_left
 ·
  (intro w hSw; (try dsimp only at hSw); go_simp; try with_reducible rfl)
 try simp only [Act.put, qa, qb, qc, qD, qE, qF]
 refine wpTail_one (i := 5) qKr rfl rfl (fun K hK => ?_)
 try simp only [Act.put, qa, qb, qc, qD, qE, qF]
 go_simp
 refine (specExportPart_c cells es (.slice p0 cells.length c0) (.slice p1 es.length c1) v7 0 0 0 (-1) false false _ _ _ (h1.ext (Xw1.trans qXt)) (h2.ext (Xw1.trans qXt))).mono ?_
 rintro e w2 ⟨cvfb12, evfb12, R13, rfl, bf11, xw2⟩
 have Lw2 : Ext w1 w2 := Ext.trans qXt xw2
 have Xw2 : Ext w w2 := Xw1.trans Lw2
 replace b10 := Lw2.cell b10
 replace b11 := Lw2.cell b11
 replace b20 := Lw2.cell b20
 replace b21 := Lw2.cell b21
 replace b30 := Lw2.cell b30
 replace b31 := Lw2.cell b31
 replace f_b30 := Lw2.frz z_b3 f_b30
 replace f_b31 := Lw2.frz z_b3 f_b31
 replace e60 := Lw2.cell e60
 have z_b1 : w.heap.size < w2.heap.size := qB b10
 have z_b2 : w.heap.size + 1 < w2.heap.size := qB b20
 have z_b3 : w.heap.size + 1 + 1 < w2.heap.size := qB b30
 have z_e6 : bl4 < w2.heap.size := qB e60
 have s_w2 : w.heap.size ≤ w2.heap.size := Xw2.size
 clear xw2
 replace bf11 := bf11.lower (lo' := w1.heap.size) qSo
 obtain ⟨afb12, cfb12, rfl⟩ := bf11.ints.form
 obtain ⟨efb12, dfb12, rfl⟩ := bf11.exps.form
 have q_bf11 := Lib.hid bf11.at
 refine hK.out _ _ ⟨b10, b11, e60⟩ (fun hHeld => ?_)
 clear hK K
 try simp only [Act.put, qa, qb, qc, qD, qE, qF]
 refine qTk (v := ?_) 6 rfl (.inl ⟨by rfl, ?_⟩) ?_
 rotate_left
 ·
  (intro w hSw; (try dsimp only at hSw); go_simp; try with_reducible rfl)
 try simp only [Act.put, qa, qb, qc, qD, qE, qF]
 refine qTk (v := ?_) 7 rfl (.inl ⟨by rfl, ?_⟩) ?_
 rotate_left
 ·
  (intro w hSw; (try dsimp only at hSw); go_simp; try with_reducible rfl)
 try simp only [Act.put, qa, qb, qc, qD, qE, qF]
 refine wpTail_last (i := 8) qKr rfl rfl (fun K hK => ?_)
 try simp only [Act.put, qa, qb, qc, qD, qE, qF]
 go_simp
 refine hK.out _ _ ?_
 clear hK K
 try simp only [Act.put, qa, qb, qc, qD, qE, qF]
 refine wpTail_last (i := 9) qKr rfl rfl (fun K hK => ?_)
 try simp only [Act.put, qa, qb, qc, qD, qE, qF]
 go_simp
 refine hK.out _ _ ?_
 clear hK K
 try simp only [Act.put, qa, qb, qc, qD, qE, qF]
 refine wpTail_done qKr ?_ _
 clear hHeld 
 generalize hW6 : ((w2.setCell ⟨w.heap.size + 1 + 1, 0, none⟩ (.slice afb12 (((parA cells es v7 0 0 0 (-1) false false).1).length) cfb12)).setCell ⟨w.heap.size + 1 + 1, 1, none⟩ (.slice efb12 (((parA cells es v7 0 0 0 (-1) false false).2.1).length) dfb12)) = w3 at *
 have Kw3 : Chg (w.heap.size + 1 + 1) (w.heap.size + 1 + 1 + 1) w2 w3 := by subst hW6; exact qCh
 have Xw3 : Ext w w3 := by subst hW6; exact qXt
 replace b10 := Kw3.cell (by omega) b10
 replace b11 := Kw3.cell (by omega) b11
 replace b20 := Kw3.cell (by omega) b20
 replace b21 := Kw3.cell (by omega) b21
 replace b30 : w3.cell? ⟨w.heap.size + 1 + 1, 0, none⟩ = some (.slice afb12 (((parA cells es v7 0 0 0 (-1) false false).1).length) cfb12) := by subst hW6; go_simp
 replace f_b30 : w3.frozen? ⟨w.heap.size + 1 + 1, 0, none⟩ = false := by subst hW6; first | (simp only [World.frozen?_setCell]; with_reducible assumption) | go_simp
 replace b31 : w3.cell? ⟨w.heap.size + 1 + 1, 1, none⟩ = some (.slice efb12 (((parA cells es v7 0 0 0 (-1) false false).2.1).length) dfb12) := by subst hW6; go_simp
 replace f_b31 : w3.frozen? ⟨w.heap.size + 1 + 1, 1, none⟩ = false := by subst hW6; first | (simp only [World.frozen?_setCell]; with_reducible assumption) | go_simp
 replace e60 := Kw3.cell (by omega) e60
 replace bf11 := bf11.chg Kw3 (by omega)
 clear Kw3
 have z_b1 : w.heap.size < w3.heap.size := qB b10
 have z_b2 : w.heap.size + 1 < w3.heap.size := qB b20
 have z_b3 : w.heap.size + 1 + 1 < w3.heap.size := qB b30
 have z_e6 : bl4 < w3.heap.size := qB e60
 have s_w3 : w.heap.size ≤ w3.heap.size := Xw3.size
 clear hW6
 go_wp2_with fail
 refine bodyPost_ret (v := .tuple #[.agg #[.slice afb12 (((parA cells es v7 0 0 0 (-1) false false).1).length) cfb12, .slice efb12 (((parA cells es v7 0 0 0 (-1) false false).2.1).length) dfb12], .bool ((parA cells es v7 0 0 0 (-1) false false).2.2)]) (by simp only [results, Try.results81]; go_simp) rfl ?_
 rw [hv7.out]
 exact ⟨_, _, _, rfl, (bf11.ext qXt).lower (by omega), (Xw3.trans qXt)⟩

set_option maxHeartbeats 3200000 in
theorem done_4 (cells : List Int) (es : List Exp) (cv ev : Value) (ns : List Int) (nv : Value) (w : World) (l1 l2 : Nat) (h1 : Ints w l1 cv cells) (h2 : Exps w l2 ev es) (l3 : Nat) (h3 : Ints w l3 nv ns) (hl : 2 ≤ ns.length) :
  Calls Try.prog 81 #[.agg #[cv, ev], .agg #[.int .i64 4, nv]] w (PBX w (filA cells es (ns.getD 0 0) (ns.getD 1 0))) := by
 obtain ⟨p0, c0, rfl⟩ := h1.form
 obtain ⟨p1, c1, rfl⟩ := h2.form
 have he1 := h2.len
 have hc1 := h1.len
 obtain ⟨pn, cn, rfl⟩ := h3.form
 have hl0 : 0 < ns.length := by omega
 have hl1 : 1 < ns.length := by omega
 go_enter Try.func81, Try.ntmps81
 go_wp2_with fail
 generalize hW7 : ((w.alloc (.cells #[.slice p0 cells.length c0, .slice p1 es.length c1] 26)).alloc (.cells #[.int .i64 4, .slice pn ns.length cn] 69)).alloc (.cells #[.slice none 0 0, .slice none 0 0] 26) = w1 at *
 have Lw1 : Ext w w1 := by subst hW7; exact qXt
 have Xw1 : Ext w w1 := by subst hW7; exact Lw1
 have b10 : w1.cell? ⟨w.heap.size, 0, none⟩ = some (.slice p0 cells.length c0) := by subst hW7; exact qCl
 have b11 : w1.cell? ⟨w.heap.size, 1, none⟩ = some (.slice p1 es.length c1) := by subst hW7; exact qCl
 have b20 : w1.cell? ⟨w.heap.size + 1, 0, none⟩ = some (.int .i64 4) := by subst hW7; exact qCl
 have b21 : w1.cell? ⟨w.heap.size + 1, 1, none⟩ = some (.slice pn ns.length cn) := by subst hW7; exact qCl
 have b30 : w1.cell? ⟨w.heap.size + 1 + 1, 0, none⟩ = some (.slice none 0 0) := by subst hW7; exact qCl
 have b31 : w1.cell? ⟨w.heap.size + 1 + 1, 1, none⟩ = some (.slice none 0 0) := by subst hW7; exact qCl
 have f_b30 : w1.frozen? ⟨w.heap.size + 1 + 1, 0, none⟩ = false := by subst hW7; exact qFz
 have f_b31 : w1.frozen? ⟨w.heap.size + 1 + 1, 1, none⟩ = false := by subst hW7; exact qFz
 have z_b1 : w.heap.size < w1.heap.size := qB b10
 have z_b2 : w.heap.size + 1 < w1.heap.size := qB b20
 have z_b3 : w.heap.size + 1 + 1 < w1.heap.size := qB b30
 have s_w1 : w.heap.size ≤ w1.heap.size := Xw1.size
 clear hW7
 have hI_e6 : (0 : Int) < (ns.length : Int) := by have hB7 : 0 < ns.length := (by omega); omega
 obtain ⟨bl4, ol5, rfl, e60⟩ := h3.at 0 (by omega)
 rw [Nat.add_zero] at e60
 have y_e6 : bl4 < w.heap.size := qB e60
 replace e60 := Xw1.cell e60
 obtain ⟨v7, hv7⟩ : ∃ v, ns.getD 0 0 = v := ⟨_, rfl⟩
 rw [hv7] at e60
 replace hv7 := Lib.hid hv7
 have z_e6 : bl4 < w1.heap.size := qB e60
 have hI_e10 : (1 : Int) < (ns.length : Int) := by have hB7 : 1 < ns.length := (by omega); omega
 obtain ⟨b_e10, o_e10, h_e10, e100⟩ := h3.at 1 (by omega)
 cases h_e10
 have y_e10 : bl4 < w.heap.size := qB e100
 replace e100 := Xw1.cell e100
 obtain ⟨v11, hv11⟩ : ∃ v, ns.getD 1 0 = v := ⟨_, rfl⟩
 rw [hv11] at e100
 replace hv11 := Lib.hid hv11
 have z_e10 : bl4 < w1.heap.size := qB e100
 refine wp_region_tail (S := fun w' => w'.cell? ⟨w.heap.size, 0, none⟩ = some (.slice p0 cells.length c0) ∧ w'.cell? ⟨w.heap.size, 1, none⟩ = some (.slice p1 es.length c1) ∧ w'.cell? ⟨bl4, ol5, none⟩ = some (.int .i64 v7) ∧ w'.cell? ⟨bl4, ol5 + 1, none⟩ = some (.int .i64 v11)) (fun i => decide (10 ≤ i)) qKr ⟨b10, b11, e60, e100⟩ (fun hHeld => ?_)
 refine qTk (v := ?_) 0 rfl (.inl ⟨by rfl, ?_⟩) ?_
 rotate_left
 ·
  (intro w hSw; (try dsimp only at hSw); go_simp; try with_reducible rfl)
 try simp only [Act.put, qa, qb, qc, qD, qE, qF]
 refine qTk (v := ?_) 1 rfl (.inl ⟨by rfl, ?_⟩) ?_
 rotate_left
 ·
  (intro w hSw; (try dsimp only at hSw); go_simp; try with_reducible rfl)
 try simp only [Act.put, qa, qb, qc, qD, qE, qF]
 refine qTk (v := ?_) 2 rfl (.inl ⟨by rfl, ?_⟩) ?_
 rotate_left
 ·
  (intro w hSw; (try dsimp only at hSw); go_simp; try with_reducible rfl)
 try simp only [Act.put, qa, qb, qc, qD, qE, qF]
 refine qTk (v := ?_) 3 rfl (.inl ⟨by rfl, ?_⟩) ?_
 rotate_left
 ·
  (intro w hSw; (try dsimp only at hSw); go_simp; try with_reducible rfl)
 try simp only [Act.put, qa, qb, qc, qD, qE, qF]
 refine qTk (v := ?_) 4 rfl (.inl ⟨by rfl, ?_⟩) ?_
 rotate_left
 ·
  (intro w hSw; (try dsimp only at hSw); go_simp; try with_reducible rfl)
 try simp only [Act.put, qa, qb, qc, qD, qE, qF]
 refine qTk (v := ?_) 5 rfl (.inl ⟨by rfl, ?_⟩) ?_
 rotate_left
 ·
  (intro w hSw; (try dsimp only at hSw); go_simp; try with_reducible rfl)
 try simp only [Act.put, qa, qb, qc, qD, qE, qF]
 refine qTk (v := ?_) 6 rfl (.inl ⟨by rfl, ?_⟩) ?_
 rotate_left
 ·
  (intro w hSw; (try dsimp only at hSw); go_simp; try with_reducible rfl)
 try simp only [Act.put, qa, qb, qc, qD, qE, qF]
 refine wpTail_one (i := 7) qKr rfl rfl (fun K hK => ?_)
 try simp only [Act.put, qa, qb, qc, qD, qE, qF]
 go_simp
 refine (specFillExport_c cells es (.slice p0 cells.length c0) (.slice p1 es.length c1) v7 v11 _ _ _ (h1.ext (Xw1.trans qXt)) (h2.ext (Xw1.trans qXt))).mono ?_
 rintro e w2 ⟨cvfb19, evfb19, R20, rfl, bf18, xw2⟩
 have Lw2 : Ext w1 w2 := Ext.trans qXt xw2
 have Xw2 : Ext w w2 := Xw1.trans Lw2
 replace b10 := Lw2.cell b10
 replace b11 := Lw2.cell b11
 replace b20 := Lw2.cell b20
 replace b21 := Lw2.cell b21
 replace b30 := Lw2.cell b30
 replace b31 := Lw2.cell b31
 replace f_b30 := Lw2.frz z_b3 f_b30
 replace f_b31 := Lw2.frz z_b3 f_b31
 replace e60 := Lw2.cell e60
 replace e100 := Lw2.cell e100
 have z_b1 : w.heap.size < w2.heap.size := qB b10
 have z_b2 : w.heap.size + 1 < w2.heap.size := qB b20
 have z_b3 : w.heap.size + 1 + 1 < w2.heap.size := qB b30
 have z_e6 : bl4 < w2.heap.size := qB e60
 have z_e10 : bl4 < w2.heap.size := qB e100
 have s_w2 : w.heap.size ≤ w2.heap.size := Xw2.size
 clear xw2
 replace bf18 := bf18.lower (lo' := w1.heap.size) qSo
 obtain ⟨afb19, cfb19, rfl⟩ := bf18.ints.form
 obtain ⟨efb19, dfb19, rfl⟩ := bf18.exps.form
 have q_bf18 := Lib.hid bf18.at
 refine hK.out _ _ ⟨b10, b11, e60, e100⟩ (fun hHeld => ?_)
 clear hK K
 try simp only [Act.put, qa, qb, qc, qD, qE, qF]
 refine qTk (v := ?_) 8 rfl (.inl ⟨by rfl, ?_⟩) ?_
 rotate_left
 ·
  (intro w hSw; (try dsimp only at hSw); go_simp; try with_reducible rfl)
 try simp only [Act.put, qa, qb, qc, qD, qE, qF]
 refine qTk (v := ?_) 9 rfl (.inl ⟨by rfl, ?_⟩) ?_
 rotate_left
 ·
  (intro w hSw; (try dsimp only at hSw); go_simp; try with_reducible rfl)
 try simp only [Act.put, qa, qb, qc, qD, qE, qF]
 refine wpTail_last (i := 10) qKr rfl rfl (fun K hK => ?_)
 try simp only [Act.put, qa, qb, qc, qD, qE, qF]
 go_simp
 refine hK.out _ _ ?_
 clear hK K
 try simp only [Act.put, qa, qb, qc, qD, qE, qF]
 refine wpTail_last (i := 11) qKr rfl rfl (fun K hK => ?_)
 try simp only [Act.put, qa, qb, qc, qD, qE, qF]
 go_simp
 refine hK.out _ _ ?_
 clear hK K
 try simp only [Act.put, qa, qb, qc, qD, qE, qF]
 refine wpTail_done qKr ?_ _
 clear hHeld 
 generalize hW8 : ((w2.setCell ⟨w.heap.size + 1 + 1, 0, none⟩ (.slice afb19 (((filA cells es v7 v11).1).length) cfb19)).setCell ⟨w.heap.size + 1 + 1, 1, none⟩ (.slice efb19 (((filA cells es v7 v11).2.1).length) dfb19)) = w3 at *
 have Kw3 : Chg (w.heap.size + 1 + 1) (w.heap.size + 1 + 1 + 1) w2 w3 := by subst hW8; exact qCh
 have Xw3 : Ext w w3 := by subst hW8; exact qXt
 replace b10 := Kw3.cell (by omega) b10
 replace b11 := Kw3.cell (by omega) b11
 replace b20 := Kw3.cell (by omega) b20
 replace b21 := Kw3.cell (by omega) b21
 replace b30 : w3.cell? ⟨w.heap.size + 1 + 1, 0, none⟩ = some (.slice afb19 (((filA cells es v7 v11).1).length) cfb19) := by subst hW8; go_simp
 replace f_b30 : w3.frozen? ⟨w.heap.size + 1 + 1, 0, none⟩ = false := by subst hW8; first | (simp only [World.frozen?_setCell]; with_reducible assumption) | go_simp
 replace b31 : w3.cell? ⟨w.heap.size + 1 + 1, 1, none⟩ = some (.slice efb19 (((filA cells es v7 v11).2.1).length) dfb19) := by subst hW8; go_simp
 replace f_b31 : w3.frozen? ⟨w.heap.size + 1 + 1, 1, none⟩ = false := by subst hW8; first | (simp only [World.frozen?_setCell]; with_reducible assumption) | go_simp
 replace e60 := Kw3.cell (by omega) e60
 replace e100 := Kw3.cell (by omega) e100
 replace bf18 := bf18.chg Kw3 (by omega)
 clear Kw3
 have z_b1 : w.heap.size < w3.heap.size := qB b10
 have z_b2 : w.heap.size + 1 < w3.heap.size := qB b20
 have z_b3 : w.heap.size + 1 + 1 < w3.heap.size := qB b30
 have z_e6 : bl4 < w3.heap.size := qB e60
 have z_e10 : bl4 < w3.heap.size := qB e100
 have s_w3 : w.heap.size ≤ w3.heap.size := Xw3.size
 clear hW8
 go_wp2_with fail
 refine bodyPost_ret (v := .tuple #[.agg #[.slice afb19 (((filA cells es v7 v11).1).length) cfb19, .slice efb19 (((filA cells es v7 v11).2.1).length) dfb19], .bool ((filA cells es v7 v11).2.2)]) (by simp only [results, Try.results81]; go_simp) rfl ?_
 rw [hv7.out, hv11.out]
 exact ⟨_, _, _, rfl, (bf18.ext qXt).lower (by omega), (Xw3.trans qXt)⟩

set_option maxHeartbeats 3200000 in
theorem done_5 (cells : List Int) (es : List Exp) (cv ev : Value) (ns : List Int) (nv : Value) (w : World) (l1 l2 : Nat) (h1 : Ints w l1 cv cells) (h2 : Exps w l2 ev es) (l3 : Nat) (h3 : Ints w l3 nv ns) (hl : 2 ≤ ns.length) :
  Calls Try.prog 81 #[.agg #[cv, ev], .agg #[.int .i64 5, nv]] w (PBX w (cpyA cells es (ns.getD 0 0) (ns.getD 1 0))) := by
 obtain ⟨p0, c0, rfl⟩ := h1.form
 obtain ⟨p1, c1, rfl⟩ := h2.form
 have he1 := h2.len
 have hc1 := h1.len
 obtain ⟨pn, cn, rfl⟩ := h3.form
 have hl0 : 0 < ns.length := by omega
 have hl1 : 1 < ns.length := by omega
 go_enter Try.func81, Try.ntmps81
 go_wp2_with fail
 generalize hW9 : ((w.alloc (.cells #[.slice p0 cells.length c0, .slice p1 es.length c1] 26)).alloc (.cells #[.int .i64 5, .slice pn ns.length cn] 69)).alloc (.cells #[.slice none 0 0, .slice none 0 0] 26) = w1 at *
 have Lw1 : Ext w w1 := by subst hW9; exact qXt
 have Xw1 : Ext w w1 := by subst hW9; exact Lw1
 have b10 : w1.cell? ⟨w.heap.size, 0, none⟩ = some (.slice p0 cells.length c0) := by subst hW9; exact qCl
 have b11 : w1.cell? ⟨w.heap.size, 1, none⟩ = some (.slice p1 es.length c1) := by subst hW9; exact qCl
 have b20 : w1.cell? ⟨w.heap.size + 1, 0, none⟩ = some (.int .i64 5) := by subst hW9; exact qCl
 have b21 : w1.cell? ⟨w.heap.size + 1, 1, none⟩ = some (.slice pn ns.length cn) := by subst hW9; exact qCl
 have b30 : w1.cell? ⟨w.heap.size + 1 + 1, 0, none⟩ = some (.slice none 0 0) := by subst hW9; exact qCl
 have b31 : w1.cell? ⟨w.heap.size + 1 + 1, 1, none⟩ = some (.slice none 0 0) := by subst hW9; exact qCl
 have f_b30 : w1.frozen? ⟨w.heap.size + 1 + 1, 0, none⟩ = false := by subst hW9; exact qFz
 have f_b31 : w1.frozen? ⟨w.heap.size + 1 + 1, 1, none⟩ = false := by subst hW9; exact qFz
 have z_b1 : w.heap.size < w1.heap.size := qB b10
 have z_b2 : w.heap.size + 1 < w1.heap.size := qB b20
 have z_b3 : w.heap.size + 1 + 1 < w1.heap.size := qB b30
 have s_w1 : w.heap.size ≤ w1.heap.size := Xw1.size
 clear hW9
 have hI_e6 : (0 : Int) < (ns.length : Int) := by have hB7 : 0 < ns.length := (by omega); omega
 obtain ⟨bl4, ol5, rfl, e60⟩ := h3.at 0 (by omega)
 rw [Nat.add_zero] at e60
 have y_e6 : bl4 < w.heap.size := qB e60
 replace e60 := Xw1.cell e60
 obtain ⟨v7, hv7⟩ : ∃ v, ns.getD 0 0 = v := ⟨_, rfl⟩
 rw [hv7] at e60
 replace hv7 := Lib.hid hv7
 have z_e6 : bl4 < w1.heap.size := qB e60
 have hI_e10 : (1 : Int) < (ns.length : Int) := by have hB7 : 1 < ns.length := (by omega); omega
 obtain ⟨b_e10, o_e10, h_e10, e100⟩ := h3.at 1 (by omega)
 cases h_e10
 have y_e10 : bl4 < w.heap.size := qB e100
 replace e100 := Xw1.cell e100
 obtain ⟨v11, hv11⟩ : ∃ v, ns.getD 1 0 = v := ⟨_, rfl⟩
 rw [hv11] at e100
 replace hv11 := Lib.hid hv11
 have z_e10 : bl4 < w1.heap.size := qB e100
 refine wp_region_tail (S := fun w' => w'.cell? ⟨w.heap.size, 0, none⟩ = some (.slice p0 cells.length c0) ∧ w'.cell? ⟨w.heap.size, 1, none⟩ = some (.slice p1 es.length c1) ∧ w'.cell? ⟨bl4, ol5, none⟩ = some (.int .i64 v7) ∧ w'.cell? ⟨bl4, ol5 + 1, none⟩ = some (.int .i64 v11)) (fun i => decide (10 ≤ i)) qKr ⟨b10, b11, e60, e100⟩ (fun hHeld => ?_)
 refine qTk (v := ?_) 0 rfl (.inl ⟨by rfl, ?_⟩) ?_
 rotate_left
 ·
  (intro w hSw; (try dsimp only at hSw); go_simp; try with_reducible rfl)
 try simp only [Act.put, qa, qb, qc, qD, qE, qF]
 refine qTk (v := ?_) 1 rfl (.inl ⟨by rfl, ?_⟩) ?_
 rotate_left
 ·
  (intro w hSw; (try dsimp only at hSw); go_simp; try with_reducible rfl)
 try simp only [Act.put, qa, qb, qc, qD, qE, qF]
 refine qTk (v := ?_) 2 rfl (.inl ⟨by rfl, ?_⟩) ?_
 rotate_left
 ·
  (intro w hSw; (try dsimp only at hSw); go_simp; try with_reducible rfl)
 try simp only [Act.put, qa, qb, qc, qD, qE, qF]
 refine qTk (v := ?_) 3 rfl (.inl ⟨by rfl, ?_⟩) ?_
 rotate_left
 ·
  (intro w hSw; (try dsimp only at hSw); go_simp; try with_reducible rfl)
 try simp only [Act.put, qa, qb, qc, qD, qE, qF]
 refine qTk (v := ?_) 4 rfl (.inl ⟨by rfl, ?_⟩) ?_
 rotate_left
 ·
  (intro w hSw; (try dsimp only at hSw); go_simp; try with_reducible rfl)
 try simp only [Act.put, qa, qb, qc, qD, qE, qF]
 refine qTk (v := ?_) 5 rfl (.inl ⟨by rfl, ?_⟩) ?_
 rotate_left
 ·
  (intro w hSw; (try dsimp only at hSw); go_simp; try with_reducible rfl)
 try simp only [Act.put, qa, qb, qc, qD, qE, qF]
 refine qTk (v := ?_) 6 rfl (.inl ⟨by rfl, ?_⟩) ?_
 rotate_left
 ·
  (intro w hSw; (try dsimp only at hSw); go_simp; try with_reducible rfl)
 try simp only [Act.put, qa, qb, qc, qD, qE, qF]
 refine wpTail_one (i := 7) qKr rfl rfl (fun K hK => ?_)
 try simp only [Act.put, qa, qb, qc, qD, qE, qF]
 go_simp
 refine (specCopyExport_c cells es (.slice p0 cells.length c0) (.slice p1 es.length c1) v7 v11 _ _ _ (h1.ext (Xw1.trans qXt)) (h2.ext (Xw1.trans qXt))).mono ?_
 rintro e w2 ⟨cvfb19, evfb19, R20, rfl, bf18, xw2⟩
 have Lw2 : Ext w1 w2 := Ext.trans qXt xw2
 have Xw2 : Ext w w2 := Xw1.trans Lw2
 replace b10 := Lw2.cell b10
 replace b11 := Lw2.cell b11
 replace b20 := Lw2.cell b20
 replace b21 := Lw2.cell b21
 replace b30 := Lw2.cell b30
 replace b31 := Lw2.cell b31
 replace f_b30 := Lw2.frz z_b3 f_b30
 replace f_b31 := Lw2.frz z_b3 f_b31
 replace e60 := Lw2.cell e60
 replace e100 := Lw2.cell e100
 have z_b1 : w.heap.size < w2.heap.size := qB b10
 have z_b2 : w.heap.size + 1 < w2.heap.size := qB b20
 have z_b3 : w.heap.size + 1 + 1 < w2.heap.size := qB b30
 have z_e6 : bl4 < w2.heap.size := qB e60
 have z_e10 : bl4 < w2.heap.size := qB e100
 have s_w2 : w.heap.size ≤ w2.heap.size := Xw2.size
 clear xw2
 replace bf18 := bf18.lower (lo' := w1.heap.size) qSo
 obtain ⟨afb19, cfb19, rfl⟩ := bf18.ints.form
 obtain ⟨efb19, dfb19, rfl⟩ := bf18.exps.form
 have q_bf18 := Lib.hid bf18.at
 refine hK.out _ _ ⟨b10, b11, e60, e100⟩ (fun hHeld => ?_)
 clear hK K
 try simp only [Act.put, qa, qb, qc, qD, qE, qF]
 refine qTk (v := ?_) 8 rfl (.inl ⟨by rfl, ?_⟩) ?_
 rotate_left
 ·
  (intro w hSw; (try dsimp only at hSw); go_simp; try with_reducible rfl)
 try simp only [Act.put, qa, qb, qc, qD, qE, qF]
 refine qTk (v := ?_) 9 rfl (.inl ⟨by rfl, ?_⟩) ?_
 rotate_left
 ·
  (intro w hSw; (try dsimp only at hSw); go_simp; try with_reducible rfl)
 try simp only [Act.put, qa, qb, qc, qD, qE, qF]
 refine wpTail_last (i := 10) qKr rfl rfl (fun K hK => ?_)
 try simp only [Act.put, qa, qb, qc, qD, qE, qF]
 go_simp
 refine hK.out _ _ ?_
 clear hK K
 try simp only [Act.put, qa, qb, qc, qD, qE, qF]
 refine wpTail_last (i := 11) qKr rfl rfl (fun K hK => ?_)
 try simp only [Act.put, qa, qb, qc, qD, qE, qF]
 go_simp
 refine hK.out _ _ ?_
 clear hK K
 try simp only [Act.put, qa, qb, qc, qD, qE, qF]
 refine wpTail_done qKr ?_ _
 clear hHeld 
 generalize hW10 : ((w2.setCell ⟨w.heap.size + 1 + 1, 0, none⟩ (.slice afb19 (((cpyA cells es v7 v11).1).length) cfb19)).setCell ⟨w.heap.size + 1 + 1, 1, none⟩ (.slice efb19 (((cpyA cells es v7 v11).2.1).length) dfb19)) = w3 at *
 have Kw3 : Chg (w.heap.size + 1 + 1) (w.heap.size + 1 + 1 + 1) w2 w3 := by subst hW10; exact qCh
 have Xw3 : Ext w w3 := by subst hW10; exact qXt
 replace b10 := Kw3.cell (by omega) b10
 replace b11 := Kw3.cell (by omega) b11
 replace b20 := Kw3.cell (by omega) b20
 replace b21 := Kw3.cell (by omega) b21
 replace b30 : w3.cell? ⟨w.heap.size + 1 + 1, 0, none⟩ = some (.slice afb19 (((cpyA cells es v7 v11).1).length) cfb19) := by subst hW10; go_simp
 replace f_b30 : w3.frozen? ⟨w.heap.size + 1 + 1, 0, none⟩ = false := by subst hW10; first | (simp only [World.frozen?_setCell]; with_reducible assumption) | go_simp
 replace b31 : w3.cell? ⟨w.heap.size + 1 + 1, 1, none⟩ = some (.slice efb19 (((cpyA cells es v7 v11).2.1).length) dfb19) := by subst hW10; go_simp
 replace f_b31 : w3.frozen? ⟨w.heap.size + 1 + 1, 1, none⟩ = false := by subst hW10; first | (simp only [World.frozen?_setCell]; with_reducible assumption) | go_simp
 replace e60 := Kw3.cell (by omega) e60
 replace e100 := Kw3.cell (by omega) e100
 replace bf18 := bf18.chg Kw3 (by omega)
 clear Kw3
 have z_b1 : w.heap.size < w3.heap.size := qB b10
 have z_b2 : w.heap.size + 1 < w3.heap.size := qB b20
 have z_b3 : w.heap.size + 1 + 1 < w3.heap.size := qB b30
 have z_e6 : bl4 < w3.heap.size := qB e60
 have z_e10 : bl4 < w3.heap.size := qB e100
 have s_w3 : w.heap.size ≤ w3.heap.size := Xw3.size
 clear hW10
 go_wp2_with fail
 refine bodyPost_ret (v := .tuple #[.agg #[.slice afb19 (((cpyA cells es v7 v11).1).length) cfb19, .slice efb19 (((cpyA cells es v7 v11).2.1).length) dfb19], .bool ((cpyA cells es v7 v11).2.2)]) (by simp only [results, Try.results81]; go_simp) rfl ?_
 rw [hv7.out, hv11.out]
 exact ⟨_, _, _, rfl, (bf18.ext qXt).lower (by omega), (Xw3.trans qXt)⟩

set_option maxHeartbeats 3200000 in
theorem done_6 (cells : List Int) (es : List Exp) (cv ev : Value) (ns : List Int) (nv : Value) (w : World) (l1 l2 : Nat) (h1 : Ints w l1 cv cells) (h2 : Exps w l2 ev es) (l3 : Nat) (h3 : Ints w l3 nv ns) (hl : 1 ≤ ns.length) :
  Calls Try.prog 81 #[.agg #[cv, ev], .agg #[.int .i64 6, nv]] w (fun e w' => e = .returned (.tuple #[.agg #[cv, ev], .bool (opB es (ns.getD 0 0))]) ∧ Ext w w') := by
 obtain ⟨p0, c0, rfl⟩ := h1.form
 obtain ⟨p1, c1, rfl⟩ := h2.form
 have he1 := h2.len
 have hc1 := h1.len
 obtain ⟨pn, cn, rfl⟩ := h3.form
 have hl0 : 0 < ns.length := by omega
 go_enter Try.func81, Try.ntmps81
 go_wp2_with fail
 generalize hW11 : ((w.alloc (.cells #[.slice p0 cells.length c0, .slice p1 es.length c1] 26)).alloc (.cells #[.int .i64 6, .slice pn ns.length cn] 69)).alloc (.cells #[.slice none 0 0, .slice none 0 0] 26) = w1 at *
 have Lw1 : Ext w w1 := by subst hW11; exact qXt
 have Xw1 : Ext w w1 := by subst hW11; exact Lw1
 have b10 : w1.cell? ⟨w.heap.size, 0, none⟩ = some (.slice p0 cells.length c0) := by subst hW11; exact qCl
 have b11 : w1.cell? ⟨w.heap.size, 1, none⟩ = some (.slice p1 es.length c1) := by subst hW11; exact qCl
 have b20 : w1.cell? ⟨w.heap.size + 1, 0, none⟩ = some (.int .i64 6) := by subst hW11; exact qCl
 have b21 : w1.cell? ⟨w.heap.size + 1, 1, none⟩ = some (.slice pn ns.length cn) := by subst hW11; exact qCl
 have b30 : w1.cell? ⟨w.heap.size + 1 + 1, 0, none⟩ = some (.slice none 0 0) := by subst hW11; exact qCl
 have b31 : w1.cell? ⟨w.heap.size + 1 + 1, 1, none⟩ = some (.slice none 0 0) := by subst hW11; exact qCl
 have f_b30 : w1.frozen? ⟨w.heap.size + 1 + 1, 0, none⟩ = false := by subst hW11; exact qFz
 have f_b31 : w1.frozen? ⟨w.heap.size + 1 + 1, 1, none⟩ = false := by subst hW11; exact qFz
 have z_b1 : w.heap.size < w1.heap.size := qB b10
 have z_b2 : w.heap.size + 1 < w1.heap.size := qB b20
 have z_b3 : w.heap.size + 1 + 1 < w1.heap.size := qB b30
 have s_w1 : w.heap.size ≤ w1.heap.size := Xw1.size
 clear hW11
 have hI_e6 : (0 : Int) < (ns.length : Int) := by have hB7 : 0 < ns.length := (by omega); omega
 obtain ⟨bl4, ol5, rfl, e60⟩ := h3.at 0 (by omega)
 rw [Nat.add_zero] at e60
 have y_e6 : bl4 < w.heap.size := qB e60
 replace e60 := Xw1.cell e60
 obtain ⟨v7, hv7⟩ : ∃ v, ns.getD 0 0 = v := ⟨_, rfl⟩
 rw [hv7] at e60
 replace hv7 := Lib.hid hv7
 have z_e6 : bl4 < w1.heap.size := qB e60
 refine wp_region_held_drew (S := fun w' => w'.cell? ⟨w.heap.size, 0, none⟩ = some (.slice p0 cells.length c0) ∧ w'.cell? ⟨w.heap.size, 1, none⟩ = some (.slice p1 es.length c1) ∧ w'.cell? ⟨bl4, ol5, none⟩ = some (.int .i64 v7)) qKr ⟨b10, b11, e60⟩ (fun hHeld => ?_)
 refine qHk (v := ?_) 0 rfl (.inl ⟨by rfl, ?_⟩) ?_
 rotate_left
 ·
  (intro w hSw; (try dsimp only at hSw); go_simp; try with_reducible rfl)
 try simp only [Act.put, qa, qb, qc, qD, qE, qF]
 refine qHk (v := ?_) 1 rfl (.inl ⟨by rfl, ?_⟩) ?_
 rotate_left
 ·
  (intro w hSw; (try dsimp only at hSw); go_simp; try with_reducible rfl)
 try simp only [Act.put, qa, qb, qc, qD, qE, qF]
 refine qHk (v := ?_) 2 rfl (.inl ⟨by rfl, ?_⟩) ?_
 rotate_left
 ·
  (intro w hSw; (try dsimp only at hSw); go_simp; try with_reducible rfl)
 try simp only [Act.put, qa, qb, qc, qD, qE, qF]
 refine qHk (v := ?_) 3 rfl (.inl ⟨by rfl, ?_⟩) ?_
 rotate_left
 ·
  (intro w hSw; (try dsimp only at hSw); go_simp; try with_reducible rfl)
 try simp only [Act.put, qa, qb, qc, qD, qE, qF]
 refine qHk (v := ?_) 4 rfl (.inl ⟨by rfl, ?_⟩) ?_
 rotate_left
 ·
  (intro w hSw; (try dsimp only at hSw); go_simp; try with_reducible rfl)
 try simp only [Act.put, qa, qb, qc, qD, qE, qF]
 refine qHr 5 rfl (fun K hK => ?_)
 try simp only [Act.put, qa, qb, qc, qD, qE, qF]
 go_simp
 refine (specIsOpen_c cells es (.slice p0 cells.length c0) (.slice p1 es.length c1) v7 _ _ _ (h1.ext (Xw1.trans qXt)) (h2.ext (Xw1.trans qXt))).mono ?_
 rintro e w2 ⟨rfl, xw2⟩
 have Lw2 : Ext w1 w2 := Ext.trans qXt xw2
 have Xw2 : Ext w w2 := Xw1.trans Lw2
 replace b10 := Lw2.cell b10
 replace b11 := Lw2.cell b11
 replace b20 := Lw2.cell b20
 replace b21 := Lw2.cell b21
 replace b30 := Lw2.cell b30
 replace b31 := Lw2.cell b31
 replace f_b30 := Lw2.frz z_b3 f_b30
 replace f_b31 := Lw2.frz z_b3 f_b31
 replace e60 := Lw2.cell e60
 have z_b1 : w.heap.size < w2.heap.size := qB b10
 have z_b2 : w.heap.size + 1 < w2.heap.size := qB b20
 have z_b3 : w.heap.size + 1 + 1 < w2.heap.size := qB b30
 have z_e6 : bl4 < w2.heap.size := qB e60
 have s_w2 : w.heap.size ≤ w2.heap.size := Xw2.size
 clear xw2
 refine hK.out _ _ ⟨b10, b11, e60⟩ (fun hHeld => ?_)
 clear hK K
 try simp only [Act.put, qa, qb, qc, qD, qE, qF]
 refine qHr 6 rfl (fun K hK => ?_)
 try simp only [Act.put, qa, qb, qc, qD, qE, qF]
 go_simp
 generalize hW12 : ((w2.setCell ⟨w.heap.size + 1 + 1, 0, none⟩ (.slice p0 cells.length c0)).setCell ⟨w.heap.size + 1 + 1, 1, none⟩ (.slice p1 es.length c1)) = w3 at *
 have Kw3 : Chg (w.heap.size + 1 + 1) (w.heap.size + 1 + 1 + 1) w2 w3 := by subst hW12; exact qCh
 have Xw3 : Ext w w3 := by subst hW12; exact qXt
 replace b10 := Kw3.cell (by omega) b10
 replace b11 := Kw3.cell (by omega) b11
 replace b20 := Kw3.cell (by omega) b20
 replace b21 := Kw3.cell (by omega) b21
 replace b30 : w3.cell? ⟨w.heap.size + 1 + 1, 0, none⟩ = some (.slice p0 cells.length c0) := by subst hW12; go_simp
 replace f_b30 : w3.frozen? ⟨w.heap.size + 1 + 1, 0, none⟩ = false := by subst hW12; first | (simp only [World.frozen?_setCell]; with_reducible assumption) | go_simp
 replace b31 : w3.cell? ⟨w.heap.size + 1 + 1, 1, none⟩ = some (.slice p1 es.length c1) := by subst hW12; go_simp
 replace f_b31 : w3.frozen? ⟨w.heap.size + 1 + 1, 1, none⟩ = false := by subst hW12; first | (simp only [World.frozen?_setCell]; with_reducible assumption) | go_simp
 replace e60 := Kw3.cell (by omega) e60
 clear Kw3
 have z_b1 : w.heap.size < w3.heap.size := qB b10
 have z_b2 : w.heap.size + 1 < w3.heap.size := qB b20
 have z_b3 : w.heap.size + 1 + 1 < w3.heap.size := qB b30
 have z_e6 : bl4 < w3.heap.size := qB e60
 have s_w3 : w.heap.size ≤ w3.heap.size := Xw3.size
 clear hW12
 refine hK.out _ _ ⟨b10, b11, e60⟩ (fun hHeld => ?_)
 clear hK K
 try simp only [Act.put, qa, qb, qc, qD, qE, qF]
 refine qHk (v := ?_) 7 rfl (.inl ⟨by rfl, ?_⟩) ?_
 rotate_left
 ·
  (intro w hSw; (try dsimp only at hSw); go_simp; try with_reducible rfl)
 try simp only [Act.put, qa, qb, qc, qD, qE, qF]
 refine wpAnyH_done qKr ?_ _
 clear hHeld 
 go_wp2_with fail
 refine bodyPost_ret (v := .tuple #[.agg #[.slice p0 cells.length c0, .slice p1 es.length c1], .bool (opB es v7)]) (by simp only [results, Try.results81]; go_simp) rfl ?_
 exact ⟨by rw [hv7.out], (Xw3.trans qXt)⟩

set_option maxHeartbeats 3200000 in
theorem done_7 (cells : List Int) (es : List Exp) (cv ev : Value) (ns : List Int) (nv : Value) (w : World) (l1 l2 : Nat) (h1 : Ints w l1 cv cells) (h2 : Exps w l2 ev es) (l3 : Nat) (h3 : Ints w l3 nv ns) (hl : 1 ≤ ns.length) :
  Calls Try.prog 81 #[.agg #[cv, ev], .agg #[.int .i64 7, nv]] w (PBX w (relA cells es (ns.getD 0 0))) := by
 obtain ⟨p0, c0, rfl⟩ := h1.form
 obtain ⟨p1, c1, rfl⟩ := h2.form
 have he1 := h2.len
 have hc1 := h1.len
 obtain ⟨pn, cn, rfl⟩ := h3.form
 have hl0 : 0 < ns.length := by omega
 go_enter Try.func81, Try.ntmps81
 go_wp2_with fail
 generalize hW13 : ((w.alloc (.cells #[.slice p0 cells.length c0, .slice p1 es.length c1] 26)).alloc (.cells #[.int .i64 7, .slice pn ns.length cn] 69)).alloc (.cells #[.slice none 0 0, .slice none 0 0] 26) = w1 at *
 have Lw1 : Ext w w1 := by subst hW13; exact qXt
 have Xw1 : Ext w w1 := by subst hW13; exact Lw1
 have b10 : w1.cell? ⟨w.heap.size, 0, none⟩ = some (.slice p0 cells.length c0) := by subst hW13; exact qCl
 have b11 : w1.cell? ⟨w.heap.size, 1, none⟩ = some (.slice p1 es.length c1) := by subst hW13; exact qCl
 have b20 : w1.cell? ⟨w.heap.size + 1, 0, none⟩ = some (.int .i64 7) := by subst hW13; exact qCl
 have b21 : w1.cell? ⟨w.heap.size + 1, 1, none⟩ = some (.slice pn ns.length cn) := by subst hW13; exact qCl
 have b30 : w1.cell? ⟨w.heap.size + 1 + 1, 0, none⟩ = some (.slice none 0 0) := by subst hW13; exact qCl
 have b31 : w1.cell? ⟨w.heap.size + 1 + 1, 1, none⟩ = some (.slice none 0 0) := by subst hW13; exact qCl
 have f_b30 : w1.frozen? ⟨w.heap.size + 1 + 1, 0, none⟩ = false := by subst hW13; exact qFz
 have f_b31 : w1.frozen? ⟨w.heap.size + 1 + 1, 1, none⟩ = false := by subst hW13; exact qFz
 have z_b1 : w.heap.size < w1.heap.size := qB b10
 have z_b2 : w.heap.size + 1 < w1.heap.size := qB b20
 have z_b3 : w.heap.size + 1 + 1 < w1.heap.size := qB b30
 have s_w1 : w.heap.size ≤ w1.heap.size := Xw1.size
 clear hW13
 have hI_e6 : (0 : Int) < (ns.length : Int) := by have hB7 : 0 < ns.length := (by omega); omega
 obtain ⟨bl4, ol5, rfl, e60⟩ := h3.at 0 (by omega)
 rw [Nat.add_zero] at e60
 have y_e6 : bl4 < w.heap.size := qB e60
 replace e60 := Xw1.cell e60
 obtain ⟨v7, hv7⟩ : ∃ v, ns.getD 0 0 = v := ⟨_, rfl⟩
 rw [hv7] at e60
 replace hv7 := Lib.hid hv7
 have z_e6 : bl4 < w1.heap.size := qB e60
 refine wp_region_tail (S := fun w' => w'.cell? ⟨w.heap.size, 0, none⟩ = some (.slice p0 cells.length c0) ∧ w'.cell? ⟨w.heap.size, 1, none⟩ = some (.slice p1 es.length c1) ∧ w'.cell? ⟨bl4, ol5, none⟩ = some (.int .i64 v7)) (fun i => decide (7 ≤ i)) qKr ⟨b10, b11, e60⟩ (fun hHeld => ?_)
 refine qTk (v := ?_) 0 rfl (.inl ⟨by rfl, ?_⟩) ?_
 rotate_left
 ·
  (intro w hSw; (try dsimp only at hSw); go_simp; try with_reducible rfl)
 try simp only [Act.put, qa, qb, qc, qD, qE, qF]
 refine qTk (v := ?_) 1 rfl (.inl ⟨by rfl, ?_⟩) ?_
 rotate_left
 ·
  (intro w hSw; (try dsimp only at hSw); go_simp; try with_reducible rfl)
 try simp only [Act.put, qa, qb, qc, qD, qE, qF]
 refine qTk (v := ?_) 2 rfl (.inl ⟨by rfl, ?_⟩) ?_
 rotate_left
 ·
  (intro w hSw; (try dsimp only at hSw); go_simp; try with_reducible rfl)
 try simp only [Act.put, qa, qb, qc, qD, qE, qF]
 refine qTk (v := ?_) 3 rfl (.inl ⟨by rfl, ?_⟩) ?_
 rotate_left
 ·
  (intro w hSw; (try dsimp only at hSw); go_simp; try with_reducible rfl)
 try simp only [Act.put, qa, qb, qc, qD, qE, qF]
 refine wpTail_one (i := 4) qKr rfl rfl (fun K hK => ?_)
 try simp only [Act.put, qa, qb, qc, qD, qE, qF]
 go_simp
 refine (specReleaseExport_c cells es (.slice p0 cells.length c0) (.slice p1 es.length c1) v7 _ _ _ (h1.ext (Xw1.trans qXt)) (h2.ext (Xw1.trans qXt))).mono ?_
 rintro e w2 ⟨cvfb12, evfb12, R13, rfl, bf11, xw2⟩
 have Lw2 : Ext w1 w2 := Ext.trans qXt xw2
 have Xw2 : Ext w w2 := Xw1.trans Lw2
 replace b10 := Lw2.cell b10
 replace b11 := Lw2.cell b11
 replace b20 := Lw2.cell b20
 replace b21 := Lw2.cell b21
 replace b30 := Lw2.cell b30
 replace b31 := Lw2.cell b31
 replace f_b30 := Lw2.frz z_b3 f_b30
 replace f_b31 := Lw2.frz z_b3 f_b31
 replace e60 := Lw2.cell e60
 have z_b1 : w.heap.size < w2.heap.size := qB b10
 have z_b2 : w.heap.size + 1 < w2.heap.size := qB b20
 have z_b3 : w.heap.size + 1 + 1 < w2.heap.size := qB b30
 have z_e6 : bl4 < w2.heap.size := qB e60
 have s_w2 : w.heap.size ≤ w2.heap.size := Xw2.size
 clear xw2
 replace bf11 := bf11.lower (lo' := w1.heap.size) qSo
 obtain ⟨afb12, cfb12, rfl⟩ := bf11.ints.form
 obtain ⟨efb12, dfb12, rfl⟩ := bf11.exps.form
 have q_bf11 := Lib.hid bf11.at
 refine hK.out _ _ ⟨b10, b11, e60⟩ (fun hHeld => ?_)
 clear hK K
 try simp only [Act.put, qa, qb, qc, qD, qE, qF]
 refine qTk (v := ?_) 5 rfl (.inl ⟨by rfl, ?_⟩) ?_
 rotate_left
 ·
  (intro w hSw; (try dsimp only at hSw); go_simp; try with_reducible rfl)
 try simp only [Act.put, qa, qb, qc, qD, qE, qF]
 refine qTk (v := ?_) 6 rfl (.inl ⟨by rfl, ?_⟩) ?_
 rotate_left
 ·
  (intro w hSw; (try dsimp only at hSw); go_simp; try with_reducible rfl)
 try simp only [Act.put, qa, qb, qc, qD, qE, qF]
 refine wpTail_last (i := 7) qKr rfl rfl (fun K hK => ?_)
 try simp only [Act.put, qa, qb, qc, qD, qE, qF]
 go_simp
 refine hK.out _ _ ?_
 clear hK K
 try simp only [Act.put, qa, qb, qc, qD, qE, qF]
 refine wpTail_last (i := 8) qKr rfl rfl (fun K hK => ?_)
 try simp only [Act.put, qa, qb, qc, qD, qE, qF]
 go_simp
 refine hK.out _ _ ?_
 clear hK K
 try simp only [Act.put, qa, qb, qc, qD, qE, qF]
 refine wpTail_done qKr ?_ _
 clear hHeld 
 generalize hW14 : ((w2.setCell ⟨w.heap.size + 1 + 1, 0, none⟩ (.slice afb12 (((relA cells es v7).1).length) cfb12)).setCell ⟨w.heap.size + 1 + 1, 1, none⟩ (.slice efb12 (((relA cells es v7).2.1).length) dfb12)) = w3 at *
 have Kw3 : Chg (w.heap.size + 1 + 1) (w.heap.size + 1 + 1 + 1) w2 w3 := by subst hW14; exact qCh
 have Xw3 : Ext w w3 := by subst hW14; exact qXt
 replace b10 := Kw3.cell (by omega) b10
 replace b11 := Kw3.cell (by omega) b11
 replace b20 := Kw3.cell (by omega) b20
 replace b21 := Kw3.cell (by omega) b21
 replace b30 : w3.cell? ⟨w.heap.size + 1 + 1, 0, none⟩ = some (.slice afb12 (((relA cells es v7).1).length) cfb12) := by subst hW14; go_simp
 replace f_b30 : w3.frozen? ⟨w.heap.size + 1 + 1, 0, none⟩ = false := by subst hW14; first | (simp only [World.frozen?_setCell]; with_reducible assumption) | go_simp
 replace b31 : w3.cell? ⟨w.heap.size + 1 + 1, 1, none⟩ = some (.slice efb12 (((relA cells es v7).2.1).length) dfb12) := by subst hW14; go_simp
 replace f_b31 : w3.frozen? ⟨w.heap.size + 1 + 1, 1, none⟩ = false := by subst hW14; first | (simp only [World.frozen?_setCell]; with_reducible assumption) | go_simp
 replace e60 := Kw3.cell (by omega) e60
 replace bf11 := bf11.chg Kw3 (by omega)
 clear Kw3
 have z_b1 : w.heap.size < w3.heap.size := qB b10
 have z_b2 : w.heap.size + 1 < w3.heap.size := qB b20
 have z_b3 : w.heap.size + 1 + 1 < w3.heap.size := qB b30
 have z_e6 : bl4 < w3.heap.size := qB e60
 have s_w3 : w.heap.size ≤ w3.heap.size := Xw3.size
 clear hW14
 go_wp2_with fail
 refine bodyPost_ret (v := .tuple #[.agg #[.slice afb12 (((relA cells es v7).1).length) cfb12, .slice efb12 (((relA cells es v7).2.1).length) dfb12], .bool ((relA cells es v7).2.2)]) (by simp only [results, Try.results81]; go_simp) rfl ?_
 rw [hv7.out]
 exact ⟨_, _, _, rfl, (bf11.ext qXt).lower (by omega), (Xw3.trans qXt)⟩


end Go.Proofs.Ytgklaobfikbiiaa

/- Walks: acts of the reference: views. -/
namespace Go.Proofs.Ytgklaobfikbiiaa
open Go.RowKit
set_option linter.unusedVariables false
set_option maxRecDepth 100000

set_option maxHeartbeats 3200000 in
theorem done_1 (cells : List Int) (es : List Exp) (cv ev : Value) (ns : List Int) (nv : Value) (w : World) (l1 l2 : Nat) (h1 : Ints w l1 cv cells) (h2 : Exps w l2 ev es) (l3 : Nat) (h3 : Ints w l3 nv ns) (hl : 3 ≤ ns.length) :
  Calls Try.prog 81 #[.agg #[cv, ev], .agg #[.int .i64 1, nv]] w (PBX w (expA cells es (ns.getD 0 0) [(ns.getD 1 0)] [(ns.getD 2 0)])) := by
 obtain ⟨p0, c0, rfl⟩ := h1.form
 obtain ⟨p1, c1, rfl⟩ := h2.form
 have he1 := h2.len
 have hc1 := h1.len
 obtain ⟨pn, cn, rfl⟩ := h3.form
 have hl0 : 0 < ns.length := by omega
 have hl1 : 1 < ns.length := by omega
 have hl2 : 2 < ns.length := by omega
 go_enter Try.func81, Try.ntmps81
 go_wp2_with fail
 generalize hW1 : ((w.alloc (.cells #[.slice p0 cells.length c0, .slice p1 es.length c1] 26)).alloc (.cells #[.int .i64 1, .slice pn ns.length cn] 69)).alloc (.cells #[.slice none 0 0, .slice none 0 0] 26) = w1 at *
 have Lw1 : Ext w w1 := by subst hW1; exact qXt
 have Xw1 : Ext w w1 := by subst hW1; exact Lw1
 have b10 : w1.cell? ⟨w.heap.size, 0, none⟩ = some (.slice p0 cells.length c0) := by subst hW1; exact qCl
 have b11 : w1.cell? ⟨w.heap.size, 1, none⟩ = some (.slice p1 es.length c1) := by subst hW1; exact qCl
 have b20 : w1.cell? ⟨w.heap.size + 1, 0, none⟩ = some (.int .i64 1) := by subst hW1; exact qCl
 have b21 : w1.cell? ⟨w.heap.size + 1, 1, none⟩ = some (.slice pn ns.length cn) := by subst hW1; exact qCl
 have b30 : w1.cell? ⟨w.heap.size + 1 + 1, 0, none⟩ = some (.slice none 0 0) := by subst hW1; exact qCl
 have b31 : w1.cell? ⟨w.heap.size + 1 + 1, 1, none⟩ = some (.slice none 0 0) := by subst hW1; exact qCl
 have f_b30 : w1.frozen? ⟨w.heap.size + 1 + 1, 0, none⟩ = false := by subst hW1; exact qFz
 have f_b31 : w1.frozen? ⟨w.heap.size + 1 + 1, 1, none⟩ = false := by subst hW1; exact qFz
 have z_b1 : w.heap.size < w1.heap.size := qB b10
 have z_b2 : w.heap.size + 1 < w1.heap.size := qB b20
 have z_b3 : w.heap.size + 1 + 1 < w1.heap.size := qB b30
 have s_w1 : w.heap.size ≤ w1.heap.size := Xw1.size
 clear hW1
 have hI_e6 : (0 : Int) < (ns.length : Int) := by have hB7 : 0 < ns.length := (by omega); omega
 obtain ⟨bl4, ol5, rfl, e60⟩ := h3.at 0 (by omega)
 rw [Nat.add_zero] at e60
 have y_e6 : bl4 < w.heap.size := qB e60
 replace e60 := Xw1.cell e60
 obtain ⟨v7, hv7⟩ : ∃ v, ns.getD 0 0 = v := ⟨_, rfl⟩
 rw [hv7] at e60
 replace hv7 := Lib.hid hv7
 have z_e6 : bl4 < w1.heap.size := qB e60
 have hI_e10 : (1 : Int) < (ns.length : Int) := by have hB7 : 1 < ns.length := (by omega); omega
 obtain ⟨b_e10, o_e10, h_e10, e100⟩ := h3.at 1 (by omega)
 cases h_e10
 have y_e10 : bl4 < w.heap.size := qB e100
 replace e100 := Xw1.cell e100
 obtain ⟨v11, hv11⟩ : ∃ v, ns.getD 1 0 = v := ⟨_, rfl⟩
 rw [hv11] at e100
 replace hv11 := Lib.hid hv11
 have z_e10 : bl4 < w1.heap.size := qB e100
 have hI_e14 : (2 : Int) < (ns.length : Int) := by have hB7 : 2 < ns.length := (by omega); omega
 obtain ⟨b_e14, o_e14, h_e14, e140⟩ := h3.at 2 (by omega)
 cases h_e14
 have y_e14 : bl4 < w.heap.size := qB e140
 replace e140 := Xw1.cell e140
 obtain ⟨v15, hv15⟩ : ∃ v, ns.getD 2 0 = v := ⟨_, rfl⟩
 rw [hv15] at e140
 replace hv15 := Lib.hid hv15
 have z_e14 : bl4 < w1.heap.size := qB e140
 refine wp_region_held_drew (S := fun w' => w'.cell? ⟨w.heap.size, 0, none⟩ = some (.slice p0 cells.length c0) ∧ w'.cell? ⟨w.heap.size, 1, none⟩ = some (.slice p1 es.length c1) ∧ w'.cell? ⟨bl4, ol5, none⟩ = some (.int .i64 v7) ∧ w'.cell? ⟨bl4, ol5 + 1, none⟩ = some (.int .i64 v11) ∧ w'.cell? ⟨bl4, ol5 + 2, none⟩ = some (.int .i64 v15)) qKr ⟨b10, b11, e60, e100, e140⟩ (fun hHeld => ?_)
 refine qHk (v := ?_) 0 rfl (.inl ⟨by rfl, ?_⟩) ?_
 rotate_left
 ·
  (intro w hSw; (try dsimp only at hSw); go_simp; try with_reducible rfl)
 try simp only [Act.put, qa, qb, qc, qD, qE, qF]
 refine qHk (v := ?_) 1 rfl (.inl ⟨by rfl, ?_⟩) ?_
 rotate_left
 ·
  (intro w hSw; (try dsimp only at hSw); go_simp; try with_reducible rfl)
 try simp only [Act.put, qa, qb, qc, qD, qE, qF]
 refine qHk (v := ?_) 2 rfl (.inl ⟨by rfl, ?_⟩) ?_
 rotate_left
 ·
  (intro w hSw; (try dsimp only at hSw); go_simp; try with_reducible rfl)
 try simp only [Act.put, qa, qb, qc, qD, qE, qF]
 refine qHk (v := ?_) 3 rfl (.inl ⟨by rfl, ?_⟩) ?_
 rotate_left
 ·
  (intro w hSw; (try dsimp only at hSw); go_simp; try with_reducible rfl)
 try simp only [Act.put, qa, qb, qc, qD, qE, qF]
 refine qHk (v := ?_) 4 rfl (.inl ⟨by rfl, ?_⟩) ?_
 rotate_left
 ·
  (intro w hSw; (try dsimp only at hSw); go_simp; try with_reducible rfl)
 try simp only [Act.put, qa, qb, qc, qD, qE, qF]
 refine qHk (v := ?_) 5 rfl (.inl ⟨by rfl, ?_⟩) ?_
 rotate_left
 ·
  (intro w hSw; (try dsimp only at hSw); go_simp; try with_reducible rfl)
 try simp only [Act.put, qa, qb, qc, qD, qE, qF]
 refine qHk (v := ?_) 6 rfl (.inl ⟨by rfl, ?_⟩) ?_
 rotate_left
 ·
  (intro w hSw; (try dsimp only at hSw); go_simp; try with_reducible rfl)
 try simp only [Act.put, qa, qb, qc, qD, qE, qF]
 refine qHk (v := ?_) 8 rfl (.inl ⟨by rfl, ?_⟩) ?_
 rotate_left
 ·
  (intro w hSw; (try dsimp only at hSw); go_simp; try with_reducible rfl)
 try simp only [Act.put, qa, qb, qc, qD, qE, qF]
 refine qHk (v := ?_) 9 rfl (.inl ⟨by rfl, ?_⟩) ?_
 rotate_left
 ·
  (intro w hSw; (try dsimp only at hSw); go_simp; try with_reducible rfl)
 try simp only [Act.put, qa, qb, qc, qD, qE, qF]
 refine qHk (v := ?_) 10 rfl (.inl ⟨by rfl, ?_⟩) ?_
 rotate_left
 ·
  (intro w hSw; (try dsimp only at hSw); go_simp; try with_reducible rfl)
 try simp only [Act.put, qa, qb, qc, qD, qE, qF]
 refine wpAnyH_ready (rs := [7, 11]) qKr (by simp) ?_
 refine AllReadyH.cons rfl (fun K hK => ?_) (AllReadyH.cons rfl (fun K hK => ?_) AllReadyH.nil)
 ·
  try simp only [Act.put, qa, qb, qc, qD, qE, qF]
  go_simp
  refine hK.out _ (w1.drew.alloc (.cells #[.int .i64 v11] 3)) ⟨(show Ext w1 (w1.drew.alloc (.cells #[.int .i64 v11] 3)) from qXt).cell b10, (show Ext w1 (w1.drew.alloc (.cells #[.int .i64 v11] 3)) from qXt).cell b11, (show Ext w1 (w1.drew.alloc (.cells #[.int .i64 v11] 3)) from qXt).cell e60, (show Ext w1 (w1.drew.alloc (.cells #[.int .i64 v11] 3)) from qXt).cell e100, (show Ext w1 (w1.drew.alloc (.cells #[.int .i64 v11] 3)) from qXt).cell e140⟩ (fun hHeld => ?_)
  clear hK K
  try simp only [Act.put, qa, qb, qc, qD, qE, qF]
  generalize hW2 : w1.drew.alloc (.cells #[.int .i64 v11] 3) = w2 at *
  have i25 : Ints w2 w1.heap.size (.slice (some ⟨w1.heap.size, 0, none⟩) 1 1) [v11] := by subst hW2; simpa using Ints.one (w1.drew) w1.heap.size v11 (by simp)
  have xw2 : Ext w1 w2 := by subst hW2; exact qXt
  clear hW2
  have Lw2 : Ext w1 w2 := Ext.trans qXt xw2
  have Xw2 : Ext w w2 := Xw1.trans Lw2
  replace b10 := Lw2.cell b10
  replace b11 := Lw2.cell b11
  replace b20 := Lw2.cell b20
  replace b21 := Lw2.cell b21
  replace b30 := Lw2.cell b30
  replace b31 := Lw2.cell b31
  replace f_b30 := Lw2.frz z_b3 f_b30
  replace f_b31 := Lw2.frz z_b3 f_b31
  replace e60 := Lw2.cell e60
  replace e100 := Lw2.cell e100
  replace e140 := Lw2.cell e140
  have z_b1 : w.heap.size < w2.heap.size := qB b10
  have z_b2 : w.heap.size + 1 < w2.heap.size := qB b20
  have z_b3 : w.heap.size + 1 + 1 < w2.heap.size := qB b30
  have z_e6 : bl4 < w2.heap.size := qB e60
  have z_e10 : bl4 < w2.heap.size := qB e100
  have z_e14 : bl4 < w2.heap.size := qB e140
  have s_w2 : w.heap.size ≤ w2.heap.size := Xw2.size
  clear xw2
  refine qHr 11 rfl (fun K hK => ?_)
  try simp only [Act.put, qa, qb, qc, qD, qE, qF]
  go_simp
  refine hK.out _ (w2.alloc (.cells #[.int .i64 v15] 3)) ⟨(show Ext w2 (w2.alloc (.cells #[.int .i64 v15] 3)) from qXt).cell b10, (show Ext w2 (w2.alloc (.cells #[.int .i64 v15] 3)) from qXt).cell b11, (show Ext w2 (w2.alloc (.cells #[.int .i64 v15] 3)) from qXt).cell e60, (show Ext w2 (w2.alloc (.cells #[.int .i64 v15] 3)) from qXt).cell e100, (show Ext w2 (w2.alloc (.cells #[.int .i64 v15] 3)) from qXt).cell e140⟩ (fun hHeld => ?_)
  clear hK K
  try simp only [Act.put, qa, qb, qc, qD, qE, qF]
  generalize hW3 : w2.alloc (.cells #[.int .i64 v15] 3) = w3 at *
  have i26 : Ints w3 w2.heap.size (.slice (some ⟨w2.heap.size, 0, none⟩) 1 1) [v15] := by subst hW3; simpa using Ints.one w2 w2.heap.size v15 (by simp)
  have xw3 : Ext w2 w3 := by subst hW3; exact qXt
  clear hW3
  have Lw3 : Ext w2 w3 := Ext.trans qXt xw3
  have Xw3 : Ext w w3 := Xw2.trans Lw3
  replace b10 := Lw3.cell b10
  replace b11 := Lw3.cell b11
  replace b20 := Lw3.cell b20
  replace b21 := Lw3.cell b21
  replace b30 := Lw3.cell b30
  replace b31 := Lw3.cell b31
  replace f_b30 := Lw3.frz z_b3 f_b30
  replace f_b31 := Lw3.frz z_b3 f_b31
  replace e60 := Lw3.cell e60
  replace e100 := Lw3.cell e100
  replace e140 := Lw3.cell e140
  have z_b1 : w.heap.size < w3.heap.size := qB b10
  have z_b2 : w.heap.size + 1 < w3.heap.size := qB b20
  have z_b3 : w.heap.size + 1 + 1 < w3.heap.size := qB b30
  have z_e6 : bl4 < w3.heap.size := qB e60
  have z_e10 : bl4 < w3.heap.size := qB e100
  have z_e14 : bl4 < w3.heap.size := qB e140
  replace i25 := i25.ext Lw3
  have s_w3 : w.heap.size ≤ w3.heap.size := Xw3.size
  clear xw3
  refine qHk (v := ?_) 12 rfl (.inl ⟨by rfl, ?_⟩) ?_
  rotate_left
  ·
   (intro w hSw; (try dsimp only at hSw); go_simp; try with_reducible rfl)
  try simp only [Act.put, qa, qb, qc, qD, qE, qF]
  refine qHr 13 rfl (fun K hK => ?_)
  try simp only [Act.put, qa, qb, qc, qD, qE, qF]
  go_simp
  refine (specExportView_c cells es (.slice p0 cells.length c0) (.slice p1 es.length c1) v7 (.slice (some ⟨w1.heap.size, 0, none⟩) 1 1) (.slice (some ⟨w2.heap.size, 0, none⟩) 1 1) ([v11]) ([v15]) _ _ _ (h1.ext (Xw3.trans qXt)) (h2.ext (Xw3.trans qXt)) _ _ (i25.ext qXt) (i26.ext qXt)).mono ?_
  rintro e w4 ⟨cvfb28, evfb28, R29, rfl, bf27, xw4⟩
  have Lw4 : Ext w3 w4 := Ext.trans qXt xw4
  have Xw4 : Ext w w4 := Xw3.trans Lw4
  replace b10 := Lw4.cell b10
  replace b11 := Lw4.cell b11
  replace b20 := Lw4.cell b20
  replace b21 := Lw4.cell b21
  replace b30 := Lw4.cell b30
  replace b31 := Lw4.cell b31
  replace f_b30 := Lw4.frz z_b3 f_b30
  replace f_b31 := Lw4.frz z_b3 f_b31
  replace e60 := Lw4.cell e60
  replace e100 := Lw4.cell e100
  replace e140 := Lw4.cell e140
  have z_b1 : w.heap.size < w4.heap.size := qB b10
  have z_b2 : w.heap.size + 1 < w4.heap.size := qB b20
  have z_b3 : w.heap.size + 1 + 1 < w4.heap.size := qB b30
  have z_e6 : bl4 < w4.heap.size := qB e60
  have z_e10 : bl4 < w4.heap.size := qB e100
  have z_e14 : bl4 < w4.heap.size := qB e140
  replace i25 := i25.ext Lw4
  replace i26 := i26.ext Lw4
  have s_w4 : w.heap.size ≤ w4.heap.size := Xw4.size
  clear xw4
  replace bf27 := bf27.lower (lo' := w3.heap.size) qSo
  obtain ⟨afb28, cfb28, rfl⟩ := bf27.ints.form
  obtain ⟨efb28, dfb28, rfl⟩ := bf27.exps.form
  have q_bf27 := Lib.hid bf27.at
  refine hK.out _ _ ⟨b10, b11, e60, e100, e140⟩ (fun hHeld => ?_)
  clear hK K
  try simp only [Act.put, qa, qb, qc, qD, qE, qF]
  refine qHk (v := ?_) 14 rfl (.inl ⟨by rfl, ?_⟩) ?_
  rotate_left
  ·
   (intro w hSw; (try dsimp only at hSw); go_simp; try with_reducible rfl)
  try simp only [Act.put, qa, qb, qc, qD, qE, qF]
  refine qHk (v := ?_) 15 rfl (.inl ⟨by rfl, ?_⟩) ?_
  rotate_left
  ·
   (intro w hSw; (try dsimp only at hSw); go_simp; try with_reducible rfl)
  try simp only [Act.put, qa, qb, qc, qD, qE, qF]
  refine qHr 16 rfl (fun K hK => ?_)
  try simp only [Act.put, qa, qb, qc, qD, qE, qF]
  go_simp
  generalize hW4 : ((w4.setCell ⟨w.heap.size + 1 + 1, 0, none⟩ (.slice afb28 (((expA cells es v7 ([v11]) ([v15])).1).length) cfb28)).setCell ⟨w.heap.size + 1 + 1, 1, none⟩ (.slice efb28 (((expA cells es v7 ([v11]) ([v15])).2.1).length) dfb28)) = w5 at *
  have Kw5 : Chg (w.heap.size + 1 + 1) (w.heap.size + 1 + 1 + 1) w4 w5 := by subst hW4; exact qCh
  have Xw5 : Ext w w5 := by subst hW4; exact qXt
  replace b10 := Kw5.cell (by omega) b10
  replace b11 := Kw5.cell (by omega) b11
  replace b20 := Kw5.cell (by omega) b20
  replace b21 := Kw5.cell (by omega) b21
  replace b30 : w5.cell? ⟨w.heap.size + 1 + 1, 0, none⟩ = some (.slice afb28 (((expA cells es v7 ([v11]) ([v15])).1).length) cfb28) := by subst hW4; go_simp
  replace f_b30 : w5.frozen? ⟨w.heap.size + 1 + 1, 0, none⟩ = false := by subst hW4; first | (simp only [World.frozen?_setCell]; with_reducible assumption) | go_simp
  replace b31 : w5.cell? ⟨w.heap.size + 1 + 1, 1, none⟩ = some (.slice efb28 (((expA cells es v7 ([v11]) ([v15])).2.1).length) dfb28) := by subst hW4; go_simp
  replace f_b31 : w5.frozen? ⟨w.heap.size + 1 + 1, 1, none⟩ = false := by subst hW4; first | (simp only [World.frozen?_setCell]; with_reducible assumption) | go_simp
  replace e60 := Kw5.cell (by omega) e60
  replace e100 := Kw5.cell (by omega) e100
  replace e140 := Kw5.cell (by omega) e140
  replace i25 := i25.chg Kw5 (by omega)
  replace i26 := i26.chg Kw5 (by omega)
  replace bf27 := bf27.chg Kw5 (by omega)
  clear Kw5
  have z_b1 : w.heap.size < w5.heap.size := qB b10
  have z_b2 : w.heap.size + 1 < w5.heap.size := qB b20
  have z_b3 : w.heap.size + 1 + 1 < w5.heap.size := qB b30
  have z_e6 : bl4 < w5.heap.size := qB e60
  have z_e10 : bl4 < w5.heap.size := qB e100
  have z_e14 : bl4 < w5.heap.size := qB e140
  have s_w5 : w.heap.size ≤ w5.heap.size := Xw5.size
  clear hW4
  refine hK.out _ _ ⟨b10, b11, e60, e100, e140⟩ (fun hHeld => ?_)
  clear hK K
  try simp only [Act.put, qa, qb, qc, qD, qE, qF]
  refine qHk (v := ?_) 17 rfl (.inl ⟨by rfl, ?_⟩) ?_
  rotate_left
  ·
   (intro w hSw; (try dsimp only at hSw); go_simp; try with_reducible rfl)
  try simp only [Act.put, qa, qb, qc, qD, qE, qF]
  refine wpAnyH_done qKr ?_ _
  clear hHeld 
  go_wp2_with fail
  refine bodyPost_ret (v := .tuple #[.agg #[.slice afb28 (((expA cells es v7 ([v11]) ([v15])).1).length) cfb28, .slice efb28 (((expA cells es v7 ([v11]) ([v15])).2.1).length) dfb28], .bool ((expA cells es v7 ([v11]) ([v15])).2.2)]) (by simp only [results, Try.results81]; go_simp) rfl ?_
  rw [hv7.out, hv11.out, hv15.out]
  exact ⟨_, _, _, rfl, (bf27.ext qXt).lower (by omega), (Xw5.trans qXt)⟩
 ·
  try simp only [Act.put, qa, qb, qc, qD, qE, qF]
  go_simp
  refine hK.out _ (w1.drew.alloc (.cells #[.int .i64 v15] 3)) ⟨(show Ext w1 (w1.drew.alloc (.cells #[.int .i64 v15] 3)) from qXt).cell b10, (show Ext w1 (w1.drew.alloc (.cells #[.int .i64 v15] 3)) from qXt).cell b11, (show Ext w1 (w1.drew.alloc (.cells #[.int .i64 v15] 3)) from qXt).cell e60, (show Ext w1 (w1.drew.alloc (.cells #[.int .i64 v15] 3)) from qXt).cell e100, (show Ext w1 (w1.drew.alloc (.cells #[.int .i64 v15] 3)) from qXt).cell e140⟩ (fun hHeld => ?_)
  clear hK K
  try simp only [Act.put, qa, qb, qc, qD, qE, qF]
  generalize hW5 : w1.drew.alloc (.cells #[.int .i64 v15] 3) = w2 at *
  have i30 : Ints w2 w1.heap.size (.slice (some ⟨w1.heap.size, 0, none⟩) 1 1) [v15] := by subst hW5; simpa using Ints.one (w1.drew) w1.heap.size v15 (by simp)
  have xw2 : Ext w1 w2 := by subst hW5; exact qXt
  clear hW5
  have Lw2 : Ext w1 w2 := Ext.trans qXt xw2
  have Xw2 : Ext w w2 := Xw1.trans Lw2
  replace b10 := Lw2.cell b10
  replace b11 := Lw2.cell b11
  replace b20 := Lw2.cell b20
  replace b21 := Lw2.cell b21
  replace b30 := Lw2.cell b30
  replace b31 := Lw2.cell b31
  replace f_b30 := Lw2.frz z_b3 f_b30
  replace f_b31 := Lw2.frz z_b3 f_b31
  replace e60 := Lw2.cell e60
  replace e100 := Lw2.cell e100
  replace e140 := Lw2.cell e140
  have z_b1 : w.heap.size < w2.heap.size := qB b10
  have z_b2 : w.heap.size + 1 < w2.heap.size := qB b20
  have z_b3 : w.heap.size + 1 + 1 < w2.heap.size := qB b30
  have z_e6 : bl4 < w2.heap.size := qB e60
  have z_e10 : bl4 < w2.heap.size := qB e100
  have z_e14 : bl4 < w2.heap.size := qB e140
  have s_w2 : w.heap.size ≤ w2.heap.size := Xw2.size
  clear xw2
  refine qHr 7 rfl (fun K hK => ?_)
  try simp only [Act.put, qa, qb, qc, qD, qE, qF]
  go_simp
  refine hK.out _ (w2.alloc (.cells #[.int .i64 v11] 3)) ⟨(show Ext w2 (w2.alloc (.cells #[.int .i64 v11] 3)) from qXt).cell b10, (show Ext w2 (w2.alloc (.cells #[.int .i64 v11] 3)) from qXt).cell b11, (show Ext w2 (w2.alloc (.cells #[.int .i64 v11] 3)) from qXt).cell e60, (show Ext w2 (w2.alloc (.cells #[.int .i64 v11] 3)) from qXt).cell e100, (show Ext w2 (w2.alloc (.cells #[.int .i64 v11] 3)) from qXt).cell e140⟩ (fun hHeld => ?_)
  clear hK K
  try simp only [Act.put, qa, qb, qc, qD, qE, qF]
  generalize hW6 : w2.alloc (.cells #[.int .i64 v11] 3) = w3 at *
  have i31 : Ints w3 w2.heap.size (.slice (some ⟨w2.heap.size, 0, none⟩) 1 1) [v11] := by subst hW6; simpa using Ints.one w2 w2.heap.size v11 (by simp)
  have xw3 : Ext w2 w3 := by subst hW6; exact qXt
  clear hW6
  have Lw3 : Ext w2 w3 := Ext.trans qXt xw3
  have Xw3 : Ext w w3 := Xw2.trans Lw3
  replace b10 := Lw3.cell b10
  replace b11 := Lw3.cell b11
  replace b20 := Lw3.cell b20
  replace b21 := Lw3.cell b21
  replace b30 := Lw3.cell b30
  replace b31 := Lw3.cell b31
  replace f_b30 := Lw3.frz z_b3 f_b30
  replace f_b31 := Lw3.frz z_b3 f_b31
  replace e60 := Lw3.cell e60
  replace e100 := Lw3.cell e100
  replace e140 := Lw3.cell e140
  have z_b1 : w.heap.size < w3.heap.size := qB b10
  have z_b2 : w.heap.size + 1 < w3.heap.size := qB b20
  have z_b3 : w.heap.size + 1 + 1 < w3.heap.size := qB b30
  have z_e6 : bl4 < w3.heap.size := qB e60
  have z_e10 : bl4 < w3.heap.size := qB e100
  have z_e14 : bl4 < w3.heap.size := qB e140
  replace i30 := i30.ext Lw3
  have s_w3 : w.heap.size ≤ w3.heap.size := Xw3.size
  clear xw3
  refine qHk (v := ?_) 12 rfl (.inl ⟨by rfl, ?_⟩) ?_
  rotate_left
  ·
   (intro w hSw; (try dsimp only at hSw); go_simp; try with_reducible rfl)
  try simp only [Act.put, qa, qb, qc, qD, qE, qF]
  refine qHr 13 rfl (fun K hK => ?_)
  try simp only [Act.put, qa, qb, qc, qD, qE, qF]
  go_simp
  refine (specExportView_c cells es (.slice p0 cells.length c0) (.slice p1 es.length c1) v7 (.slice (some ⟨w2.heap.size, 0, none⟩) 1 1) (.slice (some ⟨w1.heap.size, 0, none⟩) 1 1) ([v11]) ([v15]) _ _ _ (h1.ext (Xw3.trans qXt)) (h2.ext (Xw3.trans qXt)) _ _ (i31.ext qXt) (i30.ext qXt)).mono ?_
  rintro e w4 ⟨cvfb33, evfb33, R34, rfl, bf32, xw4⟩
  have Lw4 : Ext w3 w4 := Ext.trans qXt xw4
  have Xw4 : Ext w w4 := Xw3.trans Lw4
  replace b10 := Lw4.cell b10
  replace b11 := Lw4.cell b11
  replace b20 := Lw4.cell b20
  replace b21 := Lw4.cell b21
  replace b30 := Lw4.cell b30
  replace b31 := Lw4.cell b31
  replace f_b30 := Lw4.frz z_b3 f_b30
  replace f_b31 := Lw4.frz z_b3 f_b31
  replace e60 := Lw4.cell e60
  replace e100 := Lw4.cell e100
  replace e140 := Lw4.cell e140
  have z_b1 : w.heap.size < w4.heap.size := qB b10
  have z_b2 : w.heap.size + 1 < w4.heap.size := qB b20
  have z_b3 : w.heap.size + 1 + 1 < w4.heap.size := qB b30
  have z_e6 : bl4 < w4.heap.size := qB e60
  have z_e10 : bl4 < w4.heap.size := qB e100
  have z_e14 : bl4 < w4.heap.size := qB e140
  replace i30 := i30.ext Lw4
  replace i31 := i31.ext Lw4
  have s_w4 : w.heap.size ≤ w4.heap.size := Xw4.size
  clear xw4
  replace bf32 := bf32.lower (lo' := w3.heap.size) qSo
  obtain ⟨afb33, cfb33, rfl⟩ := bf32.ints.form
  obtain ⟨efb33, dfb33, rfl⟩ := bf32.exps.form
  have q_bf32 := Lib.hid bf32.at
  refine hK.out _ _ ⟨b10, b11, e60, e100, e140⟩ (fun hHeld => ?_)
  clear hK K
  try simp only [Act.put, qa, qb, qc, qD, qE, qF]
  refine qHk (v := ?_) 14 rfl (.inl ⟨by rfl, ?_⟩) ?_
  rotate_left
  ·
   (intro w hSw; (try dsimp only at hSw); go_simp; try with_reducible rfl)
  try simp only [Act.put, qa, qb, qc, qD, qE, qF]
  refine qHk (v := ?_) 15 rfl (.inl ⟨by rfl, ?_⟩) ?_
  rotate_left
  ·
   (intro w hSw; (try dsimp only at hSw); go_simp; try with_reducible rfl)
  try simp only [Act.put, qa, qb, qc, qD, qE, qF]
  refine qHr 16 rfl (fun K hK => ?_)
  try simp only [Act.put, qa, qb, qc, qD, qE, qF]
  go_simp
  generalize hW7 : ((w4.setCell ⟨w.heap.size + 1 + 1, 0, none⟩ (.slice afb33 (((expA cells es v7 ([v11]) ([v15])).1).length) cfb33)).setCell ⟨w.heap.size + 1 + 1, 1, none⟩ (.slice efb33 (((expA cells es v7 ([v11]) ([v15])).2.1).length) dfb33)) = w5 at *
  have Kw5 : Chg (w.heap.size + 1 + 1) (w.heap.size + 1 + 1 + 1) w4 w5 := by subst hW7; exact qCh
  have Xw5 : Ext w w5 := by subst hW7; exact qXt
  replace b10 := Kw5.cell (by omega) b10
  replace b11 := Kw5.cell (by omega) b11
  replace b20 := Kw5.cell (by omega) b20
  replace b21 := Kw5.cell (by omega) b21
  replace b30 : w5.cell? ⟨w.heap.size + 1 + 1, 0, none⟩ = some (.slice afb33 (((expA cells es v7 ([v11]) ([v15])).1).length) cfb33) := by subst hW7; go_simp
  replace f_b30 : w5.frozen? ⟨w.heap.size + 1 + 1, 0, none⟩ = false := by subst hW7; first | (simp only [World.frozen?_setCell]; with_reducible assumption) | go_simp
  replace b31 : w5.cell? ⟨w.heap.size + 1 + 1, 1, none⟩ = some (.slice efb33 (((expA cells es v7 ([v11]) ([v15])).2.1).length) dfb33) := by subst hW7; go_simp
  replace f_b31 : w5.frozen? ⟨w.heap.size + 1 + 1, 1, none⟩ = false := by subst hW7; first | (simp only [World.frozen?_setCell]; with_reducible assumption) | go_simp
  replace e60 := Kw5.cell (by omega) e60
  replace e100 := Kw5.cell (by omega) e100
  replace e140 := Kw5.cell (by omega) e140
  replace i30 := i30.chg Kw5 (by omega)
  replace i31 := i31.chg Kw5 (by omega)
  replace bf32 := bf32.chg Kw5 (by omega)
  clear Kw5
  have z_b1 : w.heap.size < w5.heap.size := qB b10
  have z_b2 : w.heap.size + 1 < w5.heap.size := qB b20
  have z_b3 : w.heap.size + 1 + 1 < w5.heap.size := qB b30
  have z_e6 : bl4 < w5.heap.size := qB e60
  have z_e10 : bl4 < w5.heap.size := qB e100
  have z_e14 : bl4 < w5.heap.size := qB e140
  have s_w5 : w.heap.size ≤ w5.heap.size := Xw5.size
  clear hW7
  refine hK.out _ _ ⟨b10, b11, e60, e100, e140⟩ (fun hHeld => ?_)
  clear hK K
  try simp only [Act.put, qa, qb, qc, qD, qE, qF]
  refine qHk (v := ?_) 17 rfl (.inl ⟨by rfl, ?_⟩) ?_
  rotate_left
  ·
   (intro w hSw; (try dsimp only at hSw); go_simp; try with_reducible rfl)
  try simp only [Act.put, qa, qb, qc, qD, qE, qF]
  refine wpAnyH_done qKr ?_ _
  clear hHeld 
  go_wp2_with fail
  refine bodyPost_ret (v := .tuple #[.agg #[.slice afb33 (((expA cells es v7 ([v11]) ([v15])).1).length) cfb33, .slice efb33 (((expA cells es v7 ([v11]) ([v15])).2.1).length) dfb33], .bool ((expA cells es v7 ([v11]) ([v15])).2.2)]) (by simp only [results, Try.results81]; go_simp) rfl ?_
  rw [hv7.out, hv11.out, hv15.out]
  exact ⟨_, _, _, rfl, (bf32.ext qXt).lower (by omega), (Xw5.trans qXt)⟩


end Go.Proofs.Ytgklaobfikbiiaa

/- Walks: numbers as texts: how long they are. -/
namespace Go.Proofs.Ytgklaobfikbiiaa
open Go.RowKit
set_option linter.unusedVariables false
set_option maxRecDepth 100000

/-- a call hands back a text of at most m bytes -/
def PTxt (m : Nat) (w : World) (e : Ending) (w' : World) : Prop := ∃ s : ByteArray, e = .returned (.string s) ∧ (s.size : Int) ≤ m ∧ Ext w w'
theorem PTxt.mono {m m' : Nat} {w w' : World} {e : Ending} (h : PTxt m w e w') (hm : m ≤ m') : PTxt m' w e w' := by
  obtain ⟨s, h1, h2, h3⟩ := h; exact ⟨s, h1, by omega, h3⟩
set_option maxHeartbeats 1600000 in
theorem num1_c (n : Nat) (hn : n < 10) (w : World) : Calls Try.prog 83 #[.int .i64 (n : Int)] w (PTxt 1 w) := by
  rcases (show n = 0 ∨ n = 1 ∨ n = 2 ∨ n = 3 ∨ n = 4 ∨ n = 5 ∨ n = 6 ∨ n = 7 ∨ n = 8 ∨ n = 9 by omega) with rfl | rfl | rfl | rfl | rfl | rfl | rfl | rfl | rfl | rfl
  all_goals
    go_enter Try.func83, Try.ntmps83
    go_wp2_with fail
    go_ret
    exact ⟨_, rfl, by decide, qXt⟩
set_option maxHeartbeats 1600000 in
theorem num2_c (n : Nat) (hn : n < 100) (w : World) : Calls Try.prog 83 #[.int .i64 (n : Int)] w (PTxt 2 w) := by
  by_cases h : n < 10
  · exact (num1_c n h w).mono fun e w' h => h.mono (by omega)
  · have h0 : ¬ (n : Int) < 0 := by omega
    have h1 : ¬ (n : Int) < 10 := by omega
    obtain ⟨q, hq⟩ : ∃ q : Nat, (n : Int).tdiv 10 = q := ⟨n / 10, by rw [Int.tdiv_eq_ediv_of_nonneg (by omega)]; omega⟩
    obtain ⟨r, hr⟩ : ∃ r : Nat, (n : Int).tmod 10 = r := ⟨n % 10, by rw [Int.tmod_eq_emod_of_nonneg (by omega)]; omega⟩
    have hq2 : (n : Int) / 10 = q := by rw [← hq, Int.tdiv_eq_ediv_of_nonneg (by omega)]
    have hr2 : (n : Int) % 10 = r := by rw [← hr, Int.tmod_eq_emod_of_nonneg (by omega)]
    have hql : q < 10 := by omega
    have hrl : r < 10 := by omega
    go_enter Try.func83, Try.ntmps83
    go_wp2_with fail
    refine (num1_c q hql _).mono ?_
    rintro e w1 ⟨s1, rfl, z1, x1⟩
    go_wp2_with fail
    refine (num1_c r hrl _).mono ?_
    rintro e w2 ⟨s2, rfl, z2, x2⟩
    have hz1 : (s1.size : Int) ≤ 8388608 := by omega
    have hz2 : (s2.size : Int) ≤ 8388608 := by omega
    go_wp2_with fail
    go_ret
    exact ⟨_, rfl, by rw [ByteArray.size_append]; omega, x1.trans x2⟩
set_option maxHeartbeats 1600000 in
theorem num3_c (n : Nat) (hn : n < 1000) (w : World) : Calls Try.prog 83 #[.int .i64 (n : Int)] w (PTxt 3 w) := by
  by_cases h : n < 10
  · exact (num1_c n h w).mono fun e w' h => h.mono (by omega)
  · have h0 : ¬ (n : Int) < 0 := by omega
    have h1 : ¬ (n : Int) < 10 := by omega
    obtain ⟨q, hq⟩ : ∃ q : Nat, (n : Int).tdiv 10 = q := ⟨n / 10, by rw [Int.tdiv_eq_ediv_of_nonneg (by omega)]; omega⟩
    obtain ⟨r, hr⟩ : ∃ r : Nat, (n : Int).tmod 10 = r := ⟨n % 10, by rw [Int.tmod_eq_emod_of_nonneg (by omega)]; omega⟩
    have hq2 : (n : Int) / 10 = q := by rw [← hq, Int.tdiv_eq_ediv_of_nonneg (by omega)]
    have hr2 : (n : Int) % 10 = r := by rw [← hr, Int.tmod_eq_emod_of_nonneg (by omega)]
    have hql : q < 100 := by omega
    have hrl : r < 10 := by omega
    go_enter Try.func83, Try.ntmps83
    go_wp2_with fail
    refine (num2_c q hql _).mono ?_
    rintro e w1 ⟨s1, rfl, z1, x1⟩
    go_wp2_with fail
    refine (num1_c r hrl _).mono ?_
    rintro e w2 ⟨s2, rfl, z2, x2⟩
    have hz1 : (s1.size : Int) ≤ 8388608 := by omega
    have hz2 : (s2.size : Int) ≤ 8388608 := by omega
    go_wp2_with fail
    go_ret
    exact ⟨_, rfl, by rw [ByteArray.size_append]; omega, x1.trans x2⟩

set_option maxHeartbeats 1600000 in
theorem numbersText_c (xs : List Int) (v : Value) (w : World) (lo : Nat) (h : Ints w lo v xs) (hx : ∀ x ∈ xs, 0 ≤ x ∧ x ≤ 255) (hl : xs.length ≤ 1000) :
    Calls Try.prog 82 #[v] w (PTxt 4000 w) := by
  obtain ⟨a, c, rfl⟩ := h.form
  replace hx := Lib.hid hx
  go_enter Try.func82, Try.ntmps82
  go_wp2_with fail
  go_loopw [3, 4] (fun t i wr => ∃ (k : Nat) (s : ByteArray), k ≤ xs.length ∧ i = .int .i64 k ∧ t = .string s ∧ (s.size : Int) ≤ 4 * k ∧ Ext w wr) (fun _ i _ => xs.length - (intOf i).toNat)
  case atStart => exact ⟨0, _, Nat.zero_le _, rfl, rfl, by decide, Ext.refl _⟩
  case round =>
    obtain ⟨k, s, hk, rfl, rfl, hs, X⟩ := hrel
    have hz : (s.size : Int) ≤ 8388608 := by omega
    by_cases hlt : k < xs.length
    · have hkI : (k : Int) < xs.length := by omega
      obtain ⟨b, of, rfl, e0⟩ := (h.ext X).at k hlt
      have hv := hx.out _ (getD_mem hlt)
      obtain ⟨y, hy⟩ : ∃ y : Nat, xs.getD k 0 = y := ⟨(xs.getD k 0).toNat, by omega⟩
      rw [hy] at e0 hv
      replace hy := Lib.hid hy
      go_wp2_with fail
      refine (num3_c y (by omega) _).mono ?_
      rintro e w1 ⟨s1, rfl, z1, x1⟩
      have hz1 : (s1.size : Int) ≤ 8388608 := by omega
      have hz2 : ((s ++ ⟨#[32]⟩).size : Int) ≤ 8388608 := by rw [ByteArray.size_append]; have : (⟨#[32]⟩ : ByteArray).size = 1 := rfl; omega
      go_wp2_with fail
      go_roundw
      case rel => exact ⟨k + 1, _, by omega, by go_num, rfl, by rw [ByteArray.size_append, ByteArray.size_append]; have : (⟨#[32]⟩ : ByteArray).size = 1 := rfl; omega, X.trans x1⟩
      case measure => simp [intOf]; omega
    · have hkI : ¬ (k : Int) < xs.length := by omega
      go_wp2_with fail
      go_ret
      exact ⟨s, rfl, by omega, X⟩
end Go.Proofs.Ytgklaobfikbiiaa

/- Plain laws: a picked number of a dimension, and the slice of that number alone. -/
namespace Go.Proofs.Ytgklaobfikbiiaa
open Go.RowKit
set_option linter.unusedVariables false
set_option maxRecDepth 100000

theorem numL_unit (j : Int) : numL j (j + 1) 1 = [j] := numL_one (cnt_of (n := 1) (by omega) fun k => by omega)
theorem idx_unit {e j : Int} (h0 : 0 ≤ j) (h1 : j < e) : idxS e j (j + 1) 1 true true = [j] := by
  have h2 : fromI e j 1 true = j := by unfold fromI boundI; simp; omega
  have h3 : toI e (j + 1) 1 true = j + 1 := by unfold toI boundI; simp; omega
  unfold idxS; rw [h2, h3, numL_unit]
theorem slice_unit {j : Int} (h0 : 0 ≤ j) (h1 : j ≤ 60) : sliceB j (j + 1) 1 true true = true := by
  unfold sliceB inB; simp; omega
theorem offC_unit : ∀ (s t : List Int) (d : Nat) (B : Int), d < s.length → t.length = s.length → offC B (s.set d 1) (t.set d 0) = offC B (delL s d) (delL t d)
  | e :: s, x :: t, 0, B, _, _ => by
    rw [delL_zero, delL_zero, List.set_cons_zero, List.set_cons_zero, offC_cons]; simp
  | e :: s, x :: t, d+1, B, h, hl => by
    rw [delL_succ, delL_succ, List.set_cons_succ, List.set_cons_succ, offC_cons, offC_cons, offC_unit s t d B (by simpa using h) (by simpa using hl)]
  | [], _, _, _, h, _ => by simp at h
  | _ :: _, [], _, _, _, h => by simp at h
theorem prod_unit {s : List Int} {d : Nat} (h : d < s.length) : prodL (s.set d 1) = prodL (delL s d) := by
  rw [prodL_set s d 1 h]
  unfold delL
  rw [prodL_append, Int.one_mul]
theorem pick_law {b : Int} {s t : List Int} {d x : Int} {PB : Int} {PS PT : List Int} (h : pickV b s t d x = (PB, PS, PT, true)) :
    ∃ (D : Nat) (J CB : Int) (CS CT : List Int), d = D ∧ D < s.length ∧ D < t.length ∧ s.length ≤ 4 ∧ (0 ≤ J ∧ J ≤ 60) ∧ (x < 0 → J = x + s.getD D 0) ∧ (¬ x < 0 → J = x) ∧ (0 ≤ s.getD D 0 ∧ s.getD D 0 ≤ 60) ∧
      sliceV b s t (D : Int) J (J + 1) 1 true true = (CB, CS, CT, true) ∧ offA PB PS PT = offA CB CS CT ∧ PS = delL s D := by
  by_cases hc : (dimB b s t d && (decide (-(s.getD d.toNat 0) ≤ x) && decide (x < s.getD d.toNat 0))) = true
  · have h0 := h
    unfold pickV at h
    rw [if_pos hc] at h
    simp only [Bool.and_eq_true, decide_eq_true_eq] at hc
    obtain ⟨hd, h1, h2⟩ := hc
    obtain ⟨hv, g1, g2⟩ := dim_in hd
    obtain ⟨D, rfl⟩ : ∃ D : Nat, d = D := ⟨d.toNat, by omega⟩
    rw [Int.toNat_natCast] at h h1 h2
    have hD : D < s.length := by omega
    obtain ⟨v1, v2, v3, v4, v5⟩ := viewB_in hv
    have hs := view_small hv
    have he := hs.2 _ (getD_mem hD)
    generalize hJ : (if x < 0 then x + s.getD D 0 else x) = J at h
    have hJ0 : 0 ≤ J ∧ J < s.getD D 0 := by split at hJ <;> omega
    injection h with e1 h
    injection h with e2 h
    injection h with e3 _
    have hL := idx_unit hJ0.1 hJ0.2
    have hsl := slice_unit hJ0.1 (show J ≤ 60 by omega)
    have hq : (1 : Int) ≠ 0 := by omega
    have hcv := cut_view (a := J) (e := J + 1) hv hD hq (by rw [numL_unit]; intro i hi; simp at hi; omega)
    rw [numL_unit] at hcv
    have hsv : sliceV b s t (D : Int) J (J + 1) 1 true true = (cutB b s t D [J], cutS s D [J], cutT s t D [J], true) := by
      rw [slice_yes hd hsl, hL]
    obtain ⟨pv1, pv2⟩ := pick_view hv hD hJ0.1 hJ0.2
    refine ⟨D, J, _, _, _, rfl, hD, by omega, hs.1, by omega, fun hx => by rw [if_pos hx] at hJ; exact hJ.symm, fun hx => by rw [if_neg hx] at hJ; exact hJ.symm, he, hsv, ?_, e2.symm⟩
    have hN : (normL [J]).1 = J := by
      have := (slice_first hq (numL_unit J)).1 (by simp); simpa using this
    have c1 : cutB b s t D [J] = tidyB (b + J * t.getD D 0) (s.set D 1) := by unfold cutB; rw [hN]; rfl
    have c2 : cutT s t D [J] = tidyT (s.set D 1) (t.set D 0) := by unfold cutT; rfl
    have c3 : cutS s D [J] = s.set D 1 := rfl
    have hs1 : Small (s.set D 1) := small_set hs D (by omega)
    have hcc : countL (s.set D 1) = countL (delL s D) := by rw [hs1.count.1, (del_small hs D hD).count.1, prod_unit hD]
    have hvc := hcv.1
    rw [c1, c2, c3] at hvc ⊢
    rw [← e1, ← e2, ← e3]
    unfold offA
    rw [if_pos pv1, if_pos hvc, pv2]
    by_cases hz : countL (delL s D) = 0
    · rw [if_pos hz]
      exact (List.eq_nil_of_length_eq_zero (by rw [offs_count, hcc, hz]; rfl)).symm
    · rw [if_neg hz, view_C hvc]
      unfold tidyB tidyT
      rw [if_neg (by rw [hcc]; exact hz), if_neg (by rw [hcc]; exact hz), offC_unit s t D _ hD v2]
  · unfold pickV at h
    rw [if_neg hc] at h
    simp [noV] at h
end Go.Proofs.Ytgklaobfikbiiaa

/- Plain laws: other shapes of the same cells, there and back. -/
namespace Go.Proofs.Ytgklaobfikbiiaa
open Go.RowKit
set_option linter.unusedVariables false
set_option linter.unusedSimpArgs false

/-- strides, 0 where there are not two -/
def maskR : List Int → List Int → List Int
  | e :: s, x :: t => (if 1 < e then x else 0) :: maskR s t
  | _, _ => []
theorem maskR_len : ∀ (s t : List Int), t.length = s.length → (maskR s t).length = s.length
  | [], [], _ => rfl
  | e :: s, x :: t, h => by rw [maskR, List.length_cons, List.length_cons, maskR_len s t (by simpa using h)]
  | [], x :: t, h => by simp at h
  | e :: s, [], h => by simp at h
theorem maskR_get : ∀ (s t : List Int) (i : Nat), t.length = s.length → i < s.length → (maskR s t).getD i 0 = if 1 < s.getD i 0 then t.getD i 0 else 0
  | [], _, i, _, h => absurd h (by simp)
  | e :: s, x :: t, 0, _, _ => by rw [maskR]; rfl
  | e :: s, x :: t, i+1, h, hi => by
    rw [maskR, List.getD_cons_succ, List.getD_cons_succ, List.getD_cons_succ]
    exact maskR_get s t i (by simpa using h) (by simpa using hi)
  | e :: s, [], _, h, _ => by simp at h
theorem mask_mem : ∀ {s t : List Int} {x : Int}, x ∈ maskR s t → x = 0 ∨ x ∈ t
  | [], _, x, h => by simp [maskR] at h
  | e :: s, [], x, h => by simp [maskR] at h
  | e :: s, y :: t, x, h => by
    rw [maskR] at h
    rcases List.mem_cons.1 h with h | h
    · split at h
      · exact .inr (h ▸ List.mem_cons_self ..)
      · exact .inl h
    · rcases mask_mem h with h | h
      · exact .inl h
      · exact .inr (List.mem_cons_of_mem _ h)
theorem mask_off : ∀ (s t : List Int) (b : Int), t.length = s.length → offC b s (maskR s t) = offC b s t
  | [], [], b, _ => rfl
  | e :: s, x :: t, b, h => by
    rw [maskR, offC_cons, offC_cons, mask_off s t b (by simpa using h)]
    refine flatMap_same fun i hi => ?_
    have hi := List.mem_range.1 hi
    by_cases h1 : 1 < e
    · rw [if_pos h1]
    · rw [if_neg h1]
      obtain rfl : i = 0 := by omega
      simp
  | [], x :: t, b, h => by simp at h
  | e :: s, [], b, h => by simp at h
theorem mask_view {b : Int} {s t : List Int} (h : viewB b s t = true) : viewB b s (maskR s t) = true ∧ offsL b s (maskR s t) = offsL b s t := by
  obtain ⟨h1, h2, h3, h4, h5⟩ := viewB_in h
  have hm := view_mild h
  have hm2 : Mild b (maskR s t) := ⟨hm.1, fun x hx => by
    rcases mask_mem hx with rfl | hx
    · omega
    · exact hm.2 x hx⟩
  have e : offsL b s (maskR s t) = offsL b s t := by rw [offs_C (view_small h) hm2, view_C h, mask_off s t b h2]
  refine ⟨viewB_mk h1 (by rw [maskR_len s t h2]) h3 (fun x hx => ?_) (by rw [e]; exact h5), e⟩
  rcases mask_mem hx with rfl | hx
  · omega
  · exact h4 x hx
theorem ext_getD {a b : List Int} (hl : a.length = b.length) (h : ∀ i, i < a.length → a.getD i 0 = b.getD i 0) : a = b := by
  apply List.ext_getElem hl
  intro i h1 h2
  have := h i h1
  rw [getD_get h1, getD_get h2] at this
  exact this
theorem rankC_set : ∀ (shape : List Int) (d : Nat) (x : Int), d < shape.length → rankC shape ((List.replicate shape.length 0).set d x) = x * prodL (shape.drop (d+1))
  | [], d, x, h => absurd h (by simp)
  | e :: s, 0, x, _ => by
    rw [List.length_cons, List.replicate_succ, List.set_cons_zero, rankC, rankC_zero]; simp
  | e :: s, d+1, x, h => by
    rw [List.length_cons, List.replicate_succ, List.set_cons_succ, rankC, rankC_set s d x (by simpa using h)]; simp
/-- the cell of the index that is not 0 in one dimension alone -/
theorem cell_set {b : Int} {s t : List Int} (h : viewB b s t = true) (hp : ∀ e ∈ s, 1 ≤ e) (d : Nat) (hd : d < s.length) (x : Int) (h0 : 0 ≤ x) (hx : x < s.getD d 0) :
    (0 ≤ x * prodL (s.drop (d+1)) ∧ x * prodL (s.drop (d+1)) < countL s) ∧ (offsL b s t).getD (x * prodL (s.drop (d+1))).toNat 0 = b + x * t.getD d 0 := by
  have hl := (viewB_in h).2.1
  have hr := ix_set s _ d x (ix_zero s hp) hd h0 hx
  have := offs_rank h hr
  have hsm := view_small h
  rw [rankL_eq (by simp) hsm (hr.small fun e he => (hsm.2 e he).2), rankC_set s d x hd, dotC_set _ _ d x b (by simpa using hd) (by simp [hl]), dotC_zero] at this
  refine ⟨this.1, this.2.trans ?_⟩
  have : (List.replicate s.length (0 : Int)).getD d 0 = 0 := by simp [hd]
  rw [this]; simp
theorem cell_zero {b : Int} {s t : List Int} (h : viewB b s t = true) (hp : ∀ e ∈ s, 1 ≤ e) : (offsL b s t).getD 0 0 = b := by
  have hr := ix_zero s hp
  have := offs_rank h hr
  have hsm := view_small h
  rw [rankL_eq (by simp) hsm (hr.small fun e he => (hsm.2 e he).2), rankC_zero, dotC_zero] at this
  exact this.2
theorem reshS_get (c s : List Int) (m i : Nat) (h : i < m) : (reshS c s m).getD i 0 = if 1 < s.getD i 0 then c.getD (countL (s.drop (i+1))).toNat 0 - c.getD 0 0 else 0 := by
  simp [reshS, h]
theorem small_pos {s : List Int} (h : Small s) (hc : countL s ≠ 0) : ∀ e ∈ s, 1 ≤ e := by
  have := h.count
  exact this.2.2.2 (by omega)
theorem resh_mask {b : Int} {s t : List Int} (h : viewB b s t = true) (hc : countL s ≠ 0) : reshS (offsL b s t) s s.length = maskR s t := by
  obtain ⟨h1, h2, h3, h4, h5⟩ := viewB_in h
  have hsm := view_small h
  have hp := small_pos hsm hc
  refine ext_getD (by rw [reshS_len, maskR_len s t h2]) fun i hi => ?_
  rw [reshS_len] at hi
  rw [reshS_get _ _ _ _ hi, maskR_get s t i h2 hi]
  by_cases h7 : 1 < s.getD i 0
  · rw [if_pos h7, if_pos h7]
    have := (cell_set h hp i hi 1 (by omega) h7).2
    rw [Int.one_mul] at this
    rw [(hsm.drop (i+1)).count.1, this, cell_zero h hp]; omega
  · rw [if_neg h7, if_neg h7]
/-- there is a view with the shape u and the cells of another one: it is found -/
theorem resh_of {b : Int} {s t u T : List Int} (hc : countL s ≠ 0) (hT : viewB b u T = true) (hcu : countL u = countL s) (he : offsL b u T = offsL b s t) :
    reshB b s t u = true ∧ reshS (offsL b s t) u u.length = maskR u T := by
  have e : reshS (offsL b s t) u u.length = maskR u T := by rw [← he]; exact resh_mask hT (by omega)
  refine ⟨?_, e⟩
  obtain ⟨m1, m2⟩ := mask_view hT
  unfold reshB
  rw [e, m1, m2, he, hcu]
  simp [sameB]
theorem resh_in {b : Int} {s t u : List Int} (hc : countL s ≠ 0) (h : reshB b s t u = true) :
    countL u = countL s ∧ viewB b u (reshS (offsL b s t) u u.length) = true ∧ offsL b u (reshS (offsL b s t) u u.length) = offsL b s t := by
  unfold reshB at h
  simp only [Bool.and_eq_true, Bool.or_eq_true, beq_iff_eq, sameB] at h
  obtain ⟨h1, h2⟩ := h
  rcases h2 with h2 | h2
  · omega
  · exact ⟨h1, h2.1, h2.2⟩

end Go.Proofs.Ytgklaobfikbiiaa

/- Plain laws: Reshape, of dense views too; two dimensions that are one, one that is two. -/
namespace Go.Proofs.Ytgklaobfikbiiaa
open Go.RowKit
set_option linter.unusedVariables false
set_option linter.unusedSimpArgs false
set_option maxRecDepth 100000

/-- Reshape -/
def rsV (b : Int) (s t u : List Int) : VBool :=
  if viewB b s t && (shapeB u && reshB b s t u) then (if countL u = 0 then (0, u, List.replicate u.length 0, true) else (b, u, reshS (offsL b s t) u u.length, true)) else noV
theorem offs_none {b : Int} {s t : List Int} (h : countL s = 0) : offsL b s t = [] := by unfold offsL; rw [h]; rfl
theorem zero_view {u : List Int} (hu : shapeB u = true) (hc : countL u = 0) : viewB 0 u (List.replicate u.length 0) = true :=
  (viewB_zero hc).2 ⟨hu, by simp, by omega, fun x hx => by rw [List.mem_replicate] at hx; omega⟩
theorem rs_no {b : Int} {s t u : List Int} (h : ¬ (viewB b s t = true ∧ shapeB u = true ∧ reshB b s t u = true)) : rsV b s t u = noV := by
  unfold rsV; rw [if_neg (by simpa using h)]
theorem rs_yes0 {b : Int} {s t u : List Int} (hv : viewB b s t = true) (hu : shapeB u = true) (h0 : countL s = 0) (hc : countL u = 0) : rsV b s t u = (0, u, List.replicate u.length 0, true) := by
  unfold rsV
  rw [hv, hu, show reshB b s t u = true by unfold reshB; rw [h0, hc]; rfl, if_pos (show (true && (true && true)) = true from rfl), if_pos hc]
theorem rs_yes1 {b : Int} {s t u T : List Int} (hv : viewB b s t = true) (hc : countL s ≠ 0) (hT : viewB b u T = true) (hcu : countL u = countL s) (he : offsL b u T = offsL b s t) :
    rsV b s t u = (b, u, maskR u T, true) := by
  obtain ⟨h1, h2⟩ := resh_of hc hT hcu he
  unfold rsV
  rw [hv, (viewB_in hT).1, h1, if_pos (show (true && (true && true)) = true from rfl), if_neg (by omega), h2]
theorem rs_in {b : Int} {s t u : List Int} {PB : Int} {PS PT : List Int} (h : rsV b s t u = (PB, PS, PT, true)) :
    viewB b s t = true ∧ shapeB u = true ∧ PS = u ∧ countL u = countL s ∧ viewB PB u PT = true ∧ offsL PB u PT = offsL b s t ∧ (countL s ≠ 0 → PB = b) := by
  unfold rsV at h
  split at h
  · rename_i h1
    simp only [Bool.and_eq_true] at h1
    obtain ⟨hv, hu, hr⟩ := h1
    split at h
    · rename_i h0
      have hs : countL s = 0 := by
        unfold reshB at hr
        simp only [Bool.and_eq_true, beq_iff_eq] at hr
        omega
      cases h
      exact ⟨hv, hu, rfl, by omega, zero_view hu h0, by rw [offs_none h0, offs_none hs], fun h => absurd hs h⟩
    · rename_i h0
      have hs : countL s ≠ 0 := by
        unfold reshB at hr
        simp only [Bool.and_eq_true, beq_iff_eq] at hr
        omega
      obtain ⟨h2, h3, h4⟩ := resh_in hs hr
      cases h
      exact ⟨hv, hu, rfl, h2, h3, h4, fun _ => rfl⟩
  · unfold noV at h; cases h
/-- there and back -/
theorem rs_back {b : Int} {s t u : List Int} {PB : Int} {PS PT : List Int} (h : rsV b s t u = (PB, PS, PT, true)) :
    ∃ QB QT, rsV PB u PT s = (QB, s, QT, true) ∧ viewB QB s QT = true ∧ offsL QB s QT = offsL b s t := by
  obtain ⟨hv, hu, rfl, hc, hw, ho, hb⟩ := rs_in h
  by_cases h0 : countL s = 0
  · have hs := (viewB_in hv).1
    exact ⟨0, _, rs_yes0 hw hs (by omega) h0, zero_view hs h0, by rw [offs_none h0, offs_none h0]⟩
  · obtain rfl := hb h0
    obtain ⟨m1, m2⟩ := mask_view hv
    exact ⟨_, _, rs_yes1 hw (by omega) hv hc.symm ho.symm, m1, m2⟩
/-- dense views -/
theorem rs_row {b : Int} {s t u : List Int} (hr : rowB b s t = true) (hu : shapeB u = true) (hc : countL u = countL s) : ∃ PB PT, rsV b s t u = (PB, u, PT, true) ∧ rowB PB u PT = true := by
  unfold rowB at hr
  simp only [Bool.and_eq_true, sameB, beq_iff_eq] at hr
  obtain ⟨hv, ho⟩ := hr
  obtain ⟨h1, h2, h3, h4, h5⟩ := viewB_in hv
  by_cases h0 : countL s = 0
  · refine ⟨0, _, rs_yes0 hv hu h0 (by omega), ?_⟩
    unfold rowB
    rw [zero_view hu (by omega), offs_none (by omega), offs_none (by omega)]; rfl
  · have hsm := Small.of hu
    have e : offsL b u (rowS u) = offsL b s t := by rw [ho, offs_row hu h3, offs_row h1 h3, hc]
    have hp := small_pos hsm (by omega)
    have hp60 : prodL u ≤ 60 := by have := (shapeB_in hu).2.2.2.1; have := hsm.count.1; omega
    have hT : viewB b u (rowS u) = true := viewB_mk hu (rowS_len u) h3 (fun x hx => by have := rowS_le hsm hp x hx; omega) (by rw [e]; exact h5)
    refine ⟨b, _, rs_yes1 hv h0 hT hc e, ?_⟩
    obtain ⟨m1, m2⟩ := mask_view hT
    unfold rowB
    rw [m1, m2]; simp [sameB]
theorem rs_cnt {b : Int} {s t u : List Int} (h : countL u ≠ countL s) : rsV b s t u = noV :=
  rs_no fun h2 => by
    have := h2.2.2
    unfold reshB at this
    simp only [Bool.and_eq_true, beq_iff_eq] at this
    exact h this.1

/-- two dimensions are one -/
def joinS (s : List Int) (d : Nat) (x : Int) : List Int := (delL s (d+1)).set d x
theorem join_zero (e1 e2 x : Int) (s : List Int) : joinS (e1 :: e2 :: s) 0 x = x :: s := by simp [joinS, delL]
theorem join_succ (e x : Int) (s : List Int) (d : Nat) : joinS (e :: s) (d + 1) x = e :: joinS s d x := by simp [joinS, delL_succ]
theorem join_len (s : List Int) (d : Nat) (x : Int) (h : d + 1 < s.length) : (joinS s d x).length = s.length - 1 := by unfold joinS; rw [List.length_set, delL_len s (d+1) h]
/-- the other way to write it -/
theorem join_del (s : List Int) (d : Nat) (x : Int) : (delL s d).set d x = joinS s d x ∨ s.length ≤ d + 1 := by
  induction s generalizing d with
  | nil => right; simp
  | cons e s ih =>
    cases d with
    | zero =>
      cases s with
      | nil => right; simp
      | cons e2 s => left; simp [joinS, delL]
    | succ d =>
      rcases ih d with h | h
      · left; rw [join_succ, delL_succ, List.set_cons_succ, h]
      · right; simp; omega
theorem join_set (s : List Int) (d : Nat) (x : Int) : delL (s.set d x) (d+1) = joinS s d x := by
  induction s generalizing d with
  | nil => simp [joinS, delL]
  | cons e s ih =>
    cases d with
    | zero => cases s <;> simp [joinS, delL]
    | succ d => rw [join_succ, List.set_cons_succ, delL_succ, ih]
theorem join_off : ∀ (s t : List Int) (d : Nat) (b X : Int), t.length = s.length → d + 1 < s.length → (∀ e ∈ s, 1 ≤ e) →
    (s.getD (d+1) 0 = 1 ∧ X = t.getD d 0 ∨ s.getD d 0 = 1 ∧ X = t.getD (d+1) 0 ∨ X = t.getD (d+1) 0 ∧ t.getD d 0 = t.getD (d+1) 0 * s.getD (d+1) 0) →
    offC b (joinS s d (s.getD d 0 * s.getD (d+1) 0)) (joinS t d X) = offC b s t
  | [], _, d, _, _, _, h, _, _ => absurd h (by simp)
  | e :: s, [], d, _, _, h, _, _, _ => by simp at h
  | [e], x :: t, d, _, _, _, h, _, _ => absurd h (by simp)
  | e1 :: e2 :: s, [x], _, _, _, h, _, _, _ => by simp at h
  | e1 :: e2 :: s, x1 :: x2 :: t, 0, b, X, hl, _, hp, hX => by
    have p1 := hp e1 (by simp)
    have p2 := hp e2 (by simp)
    rw [join_zero, join_zero]
    simp only [List.getD_cons_zero, List.getD_cons_succ] at hX ⊢
    rw [offC_cons, offC_cons, offC_cons]
    rw [show (e1 * e2).toNat = e1.toNat * e2.toNat by
      obtain ⟨a, rfl⟩ := Int.eq_ofNat_of_zero_le (show 0 ≤ e1 by omega)
      obtain ⟨c, rfl⟩ := Int.eq_ofNat_of_zero_le (show 0 ≤ e2 by omega)
      rw [← Int.natCast_mul]; simp only [Int.toNat_natCast]]
    rw [range_mul, List.flatMap_assoc]
    refine flatMap_same fun i hi => ?_
    have hi := List.mem_range.1 hi
    rw [List.map_flatMap, List.flatMap_map]
    refine flatMap_same fun j hj => ?_
    have hj := List.mem_range.1 hj
    rw [List.map_map]
    refine List.map_congr_left fun y _ => ?_
    simp only [Function.comp]
    have e2' : ((e2.toNat : Nat) : Int) = e2 := by omega
    rw [Int.natCast_add, Int.natCast_mul, e2', Int.add_assoc]
    congr 1
    rcases hX with ⟨h1, h2⟩ | ⟨h1, h2⟩ | ⟨h1, h2⟩
    · obtain rfl : j = 0 := by omega
      rw [h1, h2]; simp
    · obtain rfl : i = 0 := by omega
      rw [h2]; simp
    · rw [h1, h2, Int.add_mul, Int.mul_comm x2 e2, ← Int.mul_assoc, Int.add_comm]
  | e1 :: s, x1 :: t, d+1, b, X, hl, hd, hp, hX => by
    rw [join_succ, join_succ]
    simp only [List.getD_cons_succ] at hX ⊢
    rw [offC_cons, offC_cons, join_off s t d b X (by simpa using hl) (by simpa using hd) (fun e he => hp e (List.mem_cons_of_mem _ he)) hX]
theorem join_mem {t : List Int} {d : Nat} {x X : Int} (h : x ∈ joinS t d X) : x = X ∨ x ∈ t := by
  unfold joinS at h
  rcases List.mem_or_eq_of_mem_set h with h | h
  · exact .inr (delL_mem h)
  · exact .inl h
theorem join_prod : ∀ (s : List Int) (d : Nat), d + 1 < s.length → prodL (joinS s d (s.getD d 0 * s.getD (d+1) 0)) = prodL s
  | [], d, h => absurd h (by simp)
  | [e], d, h => absurd h (by simp)
  | e1 :: e2 :: s, 0, _ => by
    rw [join_zero, prodL_cons, prodL_cons, prodL_cons, ← Int.mul_assoc]; rfl
  | e1 :: s, d+1, h => by
    rw [join_succ, prodL_cons, prodL_cons]
    simp only [List.getD_cons_succ]
    rw [join_prod s d (by simpa using h)]
theorem join_drop : ∀ (s : List Int) (d : Nat) (x : Int), d + 1 < s.length → (joinS s d x).drop (d+1) = s.drop (d+2)
  | [], d, _, h => absurd h (by simp)
  | [e], d, _, h => absurd h (by simp)
  | e1 :: e2 :: s, 0, x, _ => by rw [join_zero]; rfl
  | e1 :: s, d+1, x, h => by
    rw [join_succ, List.drop_succ_cons, join_drop s d x (by simpa using h)]; rfl
theorem join_get (s : List Int) (d : Nat) (x : Int) (h : d + 1 < s.length) : (joinS s d x).getD d 0 = x := by
  have : d < (delL s (d+1)).length := by rw [delL_len s (d+1) h]; omega
  simp [joinS, this]
theorem drop_prod1 {s : List Int} {d : Nat} (h : d < s.length) : prodL (s.drop d) = s.getD d 0 * prodL (s.drop (d+1)) := by
  rw [List.drop_eq_getElem_cons h, prodL_cons, getD_get h]
theorem prod_ge {s : List Int} (hp : ∀ e ∈ s, 1 ≤ e) {d : Nat} (h : d < s.length) : s.getD d 0 ≤ prodL s := by
  rw [prodL_split s d h, ← getD_get h]
  have p1 : 1 ≤ prodL (s.take d) := prodL_pos fun e he => hp e (List.mem_of_mem_take he)
  have p2 : 1 ≤ prodL (s.drop (d+1)) := prodL_pos fun e he => hp e (List.mem_of_mem_drop he)
  have p0 := hp _ (getD_mem h)
  have h2 : s.getD d 0 * 1 ≤ s.getD d 0 * prodL (s.drop (d+1)) := Int.mul_le_mul_of_nonneg_left p2 (by omega)
  have h3 : 1 * (s.getD d 0 * prodL (s.drop (d+1))) ≤ prodL (s.take d) * (s.getD d 0 * prodL (s.drop (d+1))) := Int.mul_le_mul_of_nonneg_right p1 (by omega)
  omega
theorem join_shape {s : List Int} {d : Nat} (h : shapeB s = true) (hd : d + 1 < s.length) (hc : countL s ≠ 0) :
    shapeB (joinS s d (s.getD d 0 * s.getD (d+1) 0)) = true ∧ countL (joinS s d (s.getD d 0 * s.getD (d+1) 0)) = countL s := by
  have hsm := Small.of h
  have hp := small_pos hsm hc
  have hin := shapeB_in h
  have c1 := hsm.count.1
  have q1 := hp _ (getD_mem (show d < s.length by omega))
  have q2 := hp _ (getD_mem hd)
  have hl := join_len s d (s.getD d 0 * s.getD (d+1) 0) hd
  have hpj : ∀ e ∈ joinS s d (s.getD d 0 * s.getD (d+1) 0), 1 ≤ e := fun e he => by
    rcases join_mem he with rfl | he
    · have := Int.mul_le_mul q1 q2 (by omega) (by omega); simpa using this
    · exact hp e he
  have hm : Small (joinS s d (s.getD d 0 * s.getD (d+1) 0)) := by
    refine ⟨by omega, fun e he => ?_⟩
    rcases join_mem he with rfl | he
    · have h1 := prod_ge hpj (d := d) (by omega)
      rw [join_get s d _ hd, join_prod s d hd] at h1
      have h2 := hpj _ he
      omega
    · exact hsm.2 e he
  have c2 : countL (joinS s d (s.getD d 0 * s.getD (d+1) 0)) = countL s := by rw [hm.count.1, join_prod s d hd, c1]
  exact ⟨shapeB_mk hm (by omega), c2⟩
theorem join_view {b : Int} {s t : List Int} {d : Nat} {X : Int} (h : viewB b s t = true) (hd : d + 1 < s.length) (hc : countL s ≠ 0)
    (hX : s.getD (d+1) 0 = 1 ∧ X = t.getD d 0 ∨ s.getD d 0 = 1 ∧ X = t.getD (d+1) 0 ∨ X = t.getD (d+1) 0 ∧ t.getD d 0 = t.getD (d+1) 0 * s.getD (d+1) 0) :
    viewB b (joinS s d (s.getD d 0 * s.getD (d+1) 0)) (joinS t d X) = true ∧ offsL b (joinS s d (s.getD d 0 * s.getD (d+1) 0)) (joinS t d X) = offsL b s t := by
  obtain ⟨h1, h2, h3, h4, h5⟩ := viewB_in h
  obtain ⟨j1, j2⟩ := join_shape h1 hd hc
  have hXm : X ∈ t := by
    rcases hX with ⟨_, h⟩ | ⟨_, h⟩ | ⟨h, _⟩ <;> rw [h] <;> exact getD_mem (by omega)
  have hTm : ∀ x ∈ joinS t d X, x ∈ t := fun x hx => by
    rcases join_mem hx with rfl | hx
    · exact hXm
    · exact hx
  have hm := view_mild h
  have hm2 : Mild b (joinS t d X) := ⟨hm.1, fun x hx => hm.2 x (hTm x hx)⟩
  have e : offsL b (joinS s d (s.getD d 0 * s.getD (d+1) 0)) (joinS t d X) = offsL b s t := by
    rw [offs_C (Small.of j1) hm2, view_C h, join_off s t d b X h2 hd (small_pos (Small.of h1) hc) hX]
  exact ⟨viewB_mk j1 (by rw [join_len t d X (by omega), join_len s d _ hd]; omega) h3 (fun x hx => h4 x (hTm x hx)) (by rw [e]; exact h5), e⟩
/-- JoinDims is possible just if the cells go on -/
theorem join_law {b : Int} {s t : List Int} {d : Nat} (h : viewB b s t = true) (hd : d + 1 < s.length) (hc : countL s ≠ 0) :
    (rsV b s t (joinS s d (s.getD d 0 * s.getD (d+1) 0))).2.2.2 = true ↔ (s.getD d 0 = 1 ∨ s.getD (d+1) 0 = 1 ∨ t.getD d 0 = t.getD (d+1) 0 * s.getD (d+1) 0) := by
  obtain ⟨h1, h2, h3, h4, h5⟩ := viewB_in h
  obtain ⟨j1, j2⟩ := join_shape h1 hd hc
  have hp := small_pos (Small.of h1) hc
  constructor
  · intro hok
    have hd1 := getD_mem (show d < s.length by omega)
    have hd2 := getD_mem hd
    have q1 := hp _ hd1
    have q2 := hp _ hd2
    by_cases e1 : s.getD d 0 = 1
    · exact .inl e1
    by_cases e2 : s.getD (d+1) 0 = 1
    · exact .inr (.inl e2)
    refine .inr (.inr ?_)
    obtain ⟨_, hu, _, _, hw, ho, hb⟩ := rs_in (show rsV b s t (joinS s d (s.getD d 0 * s.getD (d+1) 0)) = (_, _, _, true) from by rw [← hok])
    rw [hb hc] at hw ho
    generalize hP : (rsV b s t (joinS s d (s.getD d 0 * s.getD (d+1) 0))).2.2.1 = P at *
    have hpj := small_pos (Small.of hu) (by omega)
    have hlen := join_len s d (s.getD d 0 * s.getD (d+1) 0) hd
    have hbig : s.getD (d+1) 0 < s.getD d 0 * s.getD (d+1) 0 := by
      have := Int.mul_le_mul_of_nonneg_right (show 2 ≤ s.getD d 0 by omega) (show 0 ≤ s.getD (d+1) 0 by omega)
      omega
    have a1 := (cell_set hw hpj d (by omega) 1 (by omega) (by rw [join_get s d _ hd]; omega)).2
    have a2 := (cell_set hw hpj d (by omega) (s.getD (d+1) 0) (by omega) (by rw [join_get s d _ hd]; omega)).2
    have b1 := (cell_set h hp (d+1) hd 1 (by omega) (by omega)).2
    have b2 := (cell_set h hp d (by omega) 1 (by omega) (by omega)).2
    rw [join_drop s d _ hd, ho] at a1 a2
    rw [drop_prod1 hd, Int.one_mul] at b2
    rw [a2] at b2
    rw [a1] at b1
    rw [Int.one_mul] at b1 b2
    have : P.getD d 0 = t.getD (d+1) 0 := by omega
    rw [this] at b2
    rw [Int.mul_comm]; omega
  · intro hX
    have : ∃ X, s.getD (d+1) 0 = 1 ∧ X = t.getD d 0 ∨ s.getD d 0 = 1 ∧ X = t.getD (d+1) 0 ∨ X = t.getD (d+1) 0 ∧ t.getD d 0 = t.getD (d+1) 0 * s.getD (d+1) 0 := by
      rcases hX with h | h | h
      · exact ⟨_, .inr (.inl ⟨h, rfl⟩)⟩
      · exact ⟨_, .inl ⟨h, rfl⟩⟩
      · exact ⟨_, .inr (.inr ⟨rfl, h⟩)⟩
    obtain ⟨X, hX⟩ := this
    obtain ⟨v1, v2⟩ := join_view h hd hc hX
    rw [rs_yes1 h hc v1 j2 v2]

/-- one dimension is two -/
def splitS (s : List Int) (d : Nat) (o q : Int) : List Int := insL (s.set d o) (d+1) q
theorem insL_succ (e x : Int) (s : List Int) (i : Nat) : insL (e :: s) (i + 1) x = e :: insL s i x := by simp [insL]
theorem insL_zero (x : Int) (s : List Int) : insL s 0 x = x :: s := by simp [insL]
theorem split_join : ∀ (s : List Int) (d : Nat) (o q : Int), d < s.length → joinS (splitS s d o q) d (s.getD d 0) = s
  | [], d, _, _, h => absurd h (by simp)
  | e :: s, 0, o, q, _ => by unfold splitS; rw [List.set_cons_zero, insL_succ, insL_zero, join_zero]; rfl
  | e :: s, d+1, o, q, h => by
    unfold splitS
    rw [List.set_cons_succ, insL_succ, join_succ, List.getD_cons_succ]
    have := split_join s d o q (by simpa using h)
    unfold splitS at this
    rw [this]
theorem split_get : ∀ (s : List Int) (d : Nat) (o q : Int), d < s.length → (splitS s d o q).getD d 0 = o ∧ (splitS s d o q).getD (d+1) 0 = q
  | [], d, _, _, h => absurd h (by simp)
  | e :: s, 0, o, q, _ => by unfold splitS; rw [List.set_cons_zero, insL_succ, insL_zero]; exact ⟨rfl, rfl⟩
  | e :: s, d+1, o, q, h => by
    unfold splitS
    rw [List.set_cons_succ, insL_succ, List.getD_cons_succ, List.getD_cons_succ]
    exact split_get s d o q (by simpa using h)
theorem split_len (s : List Int) (d : Nat) (o q : Int) (h : d < s.length) : (splitS s d o q).length = s.length + 1 := by unfold splitS insL; simp; omega
/-- the other way to write it -/
theorem split_ins : ∀ (s : List Int) (d : Nat) (o q : Int), d < s.length → (insL s d o).set (d+1) q = splitS s d o q
  | [], d, _, _, h => absurd h (by simp)
  | e :: s, 0, o, q, _ => by unfold splitS; rw [List.set_cons_zero, insL_succ, insL_zero, insL_zero]; rfl
  | e :: s, d+1, o, q, h => by
    unfold splitS
    rw [List.set_cons_succ, insL_succ, insL_succ, List.set_cons_succ, split_ins s d o q (by simpa using h)]; rfl

end Go.Proofs.Ytgklaobfikbiiaa

/- Walks: SameView of the program. -/
namespace Go.Proofs.Ytgklaobfikbiiaa
open Go.RowKit
set_option linter.unusedVariables false
set_option maxRecDepth 100000


def sameV (b1 : Int) (s1 t1 : List Int) (b2 : Int) (s2 t2 : List Int) : Bool := viewB b1 s1 t1 && (viewB b2 s2 t2 && (sameB s1 s2 && sameB (offsL b1 s1 t1) (offsL b2 s2 t2)))

end Go.Proofs.Ytgklaobfikbiiaa

/- Walks: CountOf of the program. -/
namespace Go.Proofs.Ytgklaobfikbiiaa
open Go.RowKit
set_option linter.unusedVariables false
set_option maxRecDepth 100000


def cntA (s : List Int) : Int := if shapeB s then countL s else -1

end Go.Proofs.Ytgklaobfikbiiaa

/- Plain laws: Reshape as the laws ask it. -/
namespace Go.Proofs.Ytgklaobfikbiiaa
open Go.RowKit
set_option linter.unusedVariables false
set_option maxRecDepth 100000

theorem offA_of {b : Int} {s t : List Int} (h : viewB b s t = true) : offA b s t = offsL b s t := by unfold offA; rw [h]; rfl
theorem cntA_of {s : List Int} (h : shapeB s = true) : cntA s = countL s := by unfold cntA; rw [h]; rfl
theorem sameV_of {b1 : Int} {s t1 : List Int} {b2 : Int} {t2 : List Int} (h1 : viewB b1 s t1 = true) (h2 : viewB b2 s t2 = true) (h : offsL b1 s t1 = offsL b2 s t2) : sameV b1 s t1 b2 s t2 = true := by
  unfold sameV; rw [h1, h2, h]; simp [sameB]
theorem rs_law {b : Int} {s t u : List Int} {PB : Int} {PS PT : List Int} (h : rsV b s t u = (PB, PS, PT, true)) :
    PS = u ∧ u.length ≤ 4 ∧ offA PB u PT = offA b s t ∧ viewB b s t = true ∧ viewB PB u PT = true ∧ cntA u = cntA s ∧ ∃ QB QT, rsV PB u PT s = (QB, s, QT, true) ∧ sameV QB s QT b s t = true := by
  obtain ⟨hv, hu, h1, hc, hw, ho, _⟩ := rs_in h
  obtain ⟨QB, QT, h2, h3, h4⟩ := rs_back h
  exact ⟨h1, (shapeB_in hu).1, by rw [offA_of hw, offA_of hv, ho], hv, hw, by rw [cntA_of hu, cntA_of (viewB_in hv).1, hc], QB, QT, h2, sameV_of h3 hv h4⟩
/-- a dense view: it is just a matter of numbers -/
theorem rs_row_law {b : Int} {s t u : List Int} {PB : Int} {PS PT : List Int} {PO : Bool} (h : rsV b s t u = (PB, PS, PT, PO)) (hr : rowB b s t = true) (hu : shapeB u = true) :
    (PO = true → cntA u = cntA s ∧ rowB PB PS PT = true) ∧ (PO = false → ¬ cntA u = cntA s) := by
  have hv : viewB b s t = true := by unfold rowB at hr; simp only [Bool.and_eq_true] at hr; exact hr.1
  have e1 := cntA_of hu
  have e2 := cntA_of (viewB_in hv).1
  constructor
  · intro hp
    subst hp
    obtain ⟨_, _, _, hc, _⟩ := rs_in h
    obtain ⟨PB', PT', h2, h3⟩ := rs_row hr hu hc
    rw [h] at h2
    cases h2
    exact ⟨by rw [e1, e2, hc], h3⟩
  · intro hp hc
    subst hp
    obtain ⟨PB', PT', h2, h3⟩ := rs_row hr hu (by omega)
    rw [h] at h2
    cases h2
end Go.Proofs.Ytgklaobfikbiiaa

/- Plain laws: a slice of a slice is a slice. -/
namespace Go.Proofs.Ytgklaobfikbiiaa
open Go.RowKit
set_option linter.unusedVariables false
set_option maxRecDepth 100000

/-- numbers by a step, by their number -/
theorem num_of (a : Int) {q : Int} (hq : q ≠ 0) (m : Nat) : numL a (a + m * q) q = (List.range m).map fun k : Nat => a + k * q := by
  unfold numL
  rw [cnt_of (n := m) hq fun k => ?_]
  rcases Int.lt_or_le 0 q with h | h
  · have : (k : Int) * q < m * q ↔ (k : Int) < m := ⟨fun g => Int.lt_of_mul_lt_mul_right g (by omega), fun g => Int.mul_lt_mul_of_pos_right g h⟩
    omega
  · have : (m : Int) * q < k * q ↔ (k : Int) < m := ⟨fun g => by
      rcases Int.lt_or_le (k : Int) m with g' | g'
      · exact g'
      · have := Int.mul_le_mul_of_nonpos_right g' h
        omega, fun g => by
      have h' : q < 0 := by omega
      exact Int.mul_lt_mul_of_neg_right g h'⟩
    omega
theorem take_num {a e q c f p : Int} (hq : q ≠ 0) (hp : p ≠ 0) (h : ∀ i ∈ numL c f p, 0 ≤ i ∧ i < (numL a e q).length) :
    takL (numL a e q) (numL c f p) = numL (a + c * q) (a + c * q + ((numL c f p).length : Nat) * (p * q)) (p * q) := by
  rw [num_of _ (Int.mul_ne_zero hp hq), numL_len]
  have hm : ∀ k : Nat, k < cntL c f p → 0 ≤ c + k * p ∧ c + k * p < (numL a e q).length := fun k hk => h _ (by unfold numL; exact List.mem_map.2 ⟨k, List.mem_range.2 hk, rfl⟩)
  unfold takL
  conv => lhs; unfold numL
  rw [List.map_map]
  refine List.map_congr_left fun k hk => ?_
  have hk := hm k (List.mem_range.1 hk)
  have hj : (c + (k : Int) * p).toNat < (numL a e q).length := by omega
  show (numL a e q).getD (c + (k : Int) * p).toNat 0 = _
  rw [List.getD_eq_getElem?_getD, List.getElem?_eq_getElem hj, Option.getD_some, numL_get]
  have : ((c + (k : Int) * p).toNat : Int) = c + k * p := by omega
  rw [this, Int.add_mul, Int.mul_assoc]; omega
/-- the normal form of some of n, as a slice, takes the same -/
theorem norm_slice {a b q n : Int} (hq : q ≠ 0) (h0 : 0 ≤ n ∧ n ≤ 60) (h : ∀ i ∈ numL a b q, 0 ≤ i ∧ i < n) {N1 N2 N3 : Int} (hN : normL (numL a b q) = (N1, N2, N3)) :
    idxS n N1 (if N2 = -1 then 0 else N2) N3 true (!decide (N2 = -1)) = numL a b q ∧ sliceB N1 (if N2 = -1 then 0 else N2) N3 true (!decide (N2 = -1)) = true := by
  have hk := norm_numL (a := a) (b := b) hq
  have hnd := numL_nodup (a := a) (b := b) hq
  rw [hN] at hk
  have key : (0 ≤ N1 ∧ N1 ≤ 60 ∧ (N1 < n ∨ N1 = 0 ∧ 0 < N3)) ∧ N3 ≠ 0 ∧ (-60 ≤ N3 ∧ N3 ≤ 60) ∧ (0 < N3 → 0 ≤ N2 ∧ N2 ≤ n) ∧ (N3 < 0 → -1 ≤ N2 ∧ N2 ≤ n - 1) := by
    match hX : numL a b q, hN, h, hnd with
    | [], hN, h, _ => cases hN; omega
    | [x], hN, h, _ =>
      cases hN
      have := h N1 (by simp); omega
    | x :: y :: r, hN, h, hnd =>
      have h1 := h x (by simp)
      have h2 := h y (by simp)
      have h3 := h _ (List.mem_cons_of_mem x (List.getLast_mem (List.cons_ne_nil y r)))
      have h4 : x ≠ y := by
        rw [List.nodup_cons] at hnd
        intro he; exact hnd.1 (by rw [he]; simp)
      simp only [normL, Prod.mk.injEq] at hN
      obtain ⟨e1, e2, e3⟩ := hN
      subst e1; subst e3
      generalize (y :: r).getLast (List.cons_ne_nil y r) = z at *
      split at e2 <;> omega
  obtain ⟨k1, k2, k3, k4, k5⟩ := key
  constructor
  · rw [← hk]
    unfold idxS
    have e1 : fromI n N1 N3 true = N1 := by unfold fromI boundI; simp only [if_true]; split <;> split <;> omega
    have e2 : toI n (if N2 = -1 then 0 else N2) N3 (!decide (N2 = -1)) = N2 := by
      by_cases hs : N2 = -1
      · rw [if_pos hs]; subst hs; unfold toI; simp; omega
      · rw [if_neg hs]; unfold toI boundI; simp only [hs, decide_false, Bool.not_false, if_true]; split <;> split <;> omega
    rw [e1, e2]
  · unfold sliceB inB
    by_cases hs : N2 = -1
    · subst hs; simp; omega
    · simp [hs]; omega
theorem tidy_len (s t : List Int) (h : t.length = s.length) : (tidyT s t).length = s.length := by unfold tidyT; split <;> simp [h]
theorem zero_set {s : List Int} {d : Nat} {x y : Int} (hd : d < s.length) (hx : Small (s.set d x)) (hy : Small (s.set d y)) (h : countL (s.set d x) = 0) (h2 : x ≠ 0) : countL (s.set d y) = 0 := by
  rw [hx.count.1, prodL_set _ _ _ hd] at h
  rw [hy.count.1, prodL_set _ _ _ hd]
  rcases Int.mul_eq_zero.1 h with h | h
  · rw [h, Int.zero_mul]
  · rcases Int.mul_eq_zero.1 h with h | h
    · exact absurd h h2
    · rw [h, Int.mul_zero, Int.mul_zero]
theorem zero_len {s : List Int} {d : Nat} (hd : d < s.length) (hx : Small (s.set d 0)) : countL (s.set d 0) = 0 := by
  rw [hx.count.1, prodL_set _ _ _ hd, Int.zero_mul, Int.mul_zero]
/-- a cut of a cut is the cut by what is taken of what is taken -/
theorem cut_cut {b : Int} {s t : List Int} {d : Nat} {a e q c f p : Int} (hs : Small s) (hl : t.length = s.length) (hd : d < s.length) (hq : q ≠ 0) (hp : p ≠ 0) (h1 : ((numL a e q).length : Int) ≤ 60) (h2 : ((numL c f p).length : Int) ≤ 60)
    (h : ∀ i ∈ numL c f p, 0 ≤ i ∧ i < (numL a e q).length) :
    cutB (cutB b s t d (numL a e q)) (cutS s d (numL a e q)) (cutT s t d (numL a e q)) d (numL c f p) = cutB b s t d (takL (numL a e q) (numL c f p)) ∧
    cutS (cutS s d (numL a e q)) d (numL c f p) = cutS s d (takL (numL a e q) (numL c f p)) ∧
    cutT (cutS s d (numL a e q)) (cutT s t d (numL a e q)) d (numL c f p) = cutT s t d (takL (numL a e q) (numL c f p)) := by
  have hX := take_num hq hp h
  have hXl := takL_len (numL a e q) (numL c f p)
  have hpq := Int.mul_ne_zero hp hq
  obtain ⟨n1, n2, n3⟩ := norm_two (a := a) (b := e) hq
  obtain ⟨m1, m2, m3⟩ := norm_two (a := c) (b := f) hp
  obtain ⟨x1, x2, x3⟩ := norm_two (a := a + c * q) (b := a + c * q + ((numL c f p).length : Nat) * (p * q)) hpq
  rw [← hX] at x1 x2 x3
  have hsm : ∀ m : Nat, (m : Int) ≤ 60 → Small (s.set d m) := fun m hm => small_set hs d (by omega)
  have hc0 : 2 ≤ (numL c f p).length → 2 ≤ (numL a e q).length := by
    intro h2
    have g0 := h _ (List.getElem_mem (show 0 < (numL c f p).length by omega))
    have g1 := h _ (List.getElem_mem (show 1 < (numL c f p).length by omega))
    rw [numL_get] at g0 g1
    omega
  have hc1 : (numL c f p).length ≠ 0 → 0 ≤ c ∧ c < (numL a e q).length := by
    intro h2
    have g0 := h _ (List.getElem_mem (show 0 < (numL c f p).length by omega))
    rw [numL_get] at g0
    omega
  generalize takL (numL a e q) (numL c f p) = X at *
  generalize numL a e q = L at *
  generalize numL c f p = K at *
  have e0 : (s.set d (L.length : Int)).set d (K.length : Int) = s.set d X.length := by rw [List.set_set, hXl]
  refine ⟨?_, by unfold cutS; exact e0, ?_⟩
  · unfold cutB cutT cutS
    rw [e0]
    unfold tidyB
    by_cases hz : countL (s.set d X.length) = 0
    · rw [if_pos hz, if_pos hz]
    · have hK0 : K.length ≠ 0 := by
        intro h0; rw [hXl, h0] at hz; exact hz (zero_len hd (by simpa using hsm 0 (by omega)))
      have hL0 : L.length ≠ 0 := by have := hc1 hK0; omega
      have hzL : ¬ countL (s.set d L.length) = 0 := fun g => hz (zero_set hd (hsm _ h1) (hsm _ (by rw [hXl]; exact h2)) g (by omega))
      rw [if_neg hz, if_neg hz, if_neg hzL]
      unfold tidyT
      rw [if_neg hzL, n1 hL0, m1 hK0, x1 (by omega)]
      rw [show (t.set d (if L.length ≤ 1 then 0 else (normL L).2.2 * t.getD d 0)).getD d 0 = if L.length ≤ 1 then 0 else (normL L).2.2 * t.getD d 0 by simp [hl, hd]]
      by_cases h5 : L.length ≤ 1
      · rw [if_pos h5]
        have : c = 0 := by have := hc1 hK0; omega
        subst this
        simp
      · rw [if_neg h5, n3 (by omega), Int.add_mul, Int.mul_assoc, Int.add_assoc]
  · unfold cutT cutS
    rw [e0]
    unfold tidyT
    by_cases hz : countL (s.set d X.length) = 0
    · rw [if_pos hz, if_pos hz]
    · have hK0 : K.length ≠ 0 := by
        intro h0; rw [hXl, h0] at hz; exact hz (zero_len hd (by simpa using hsm 0 (by omega)))
      have hL0 : L.length ≠ 0 := by have := hc1 hK0; omega
      have hzL : ¬ countL (s.set d L.length) = 0 := fun g => hz (zero_set hd (hsm _ h1) (hsm _ (by rw [hXl]; exact h2)) g (by omega))
      rw [if_neg hz, if_neg hz, if_neg hzL, List.set_set]
      congr 1
      rw [show (t.set d (if L.length ≤ 1 then 0 else (normL L).2.2 * t.getD d 0)).getD d 0 = if L.length ≤ 1 then 0 else (normL L).2.2 * t.getD d 0 by simp [hl, hd]]
      by_cases h5 : K.length ≤ 1
      · rw [if_pos h5, if_pos (by omega)]
      · have h6 := hc0 (by omega)
        rw [if_neg h5, if_neg (by omega), if_neg (by omega), m3 (by omega), n3 (by omega), x3 (by omega), Int.mul_assoc]
theorem slice_inv {b : Int} {s t : List Int} {d F T B : Int} {hf ht : Bool} {PB : Int} {PS PT : List Int} (h : sliceV b s t d F T B hf ht = (PB, PS, PT, true)) :
    ∃ D : Nat, d = (D : Int) ∧ D < s.length ∧ viewB b s t = true ∧ sliceB F T B hf ht = true ∧ PB = cutB b s t D (idxS (s.getD D 0) F T B hf ht) ∧ PS = cutS s D (idxS (s.getD D 0) F T B hf ht) ∧ PT = cutT s t D (idxS (s.getD D 0) F T B hf ht) := by
  unfold sliceV at h
  split at h
  · rename_i h1
    simp only [Bool.and_eq_true, inB, decide_eq_true_eq] at h1
    obtain ⟨hv, ⟨hd0, hd1⟩, hsl⟩ := h1
    obtain ⟨D, rfl⟩ : ∃ D : Nat, d = D := ⟨d.toNat, by omega⟩
    rw [Int.toNat_natCast] at h
    cases h
    exact ⟨D, rfl, by omega, hv, hsl, rfl, rfl, rfl⟩
  · unfold noV at h; cases h
theorem idx_in {n F T B : Int} {hf ht : Bool} (hn : 0 ≤ n) (hB : B ≠ 0) : ∀ i ∈ idxS n F T B hf ht, 0 ≤ i ∧ i < n := by
  intro i hi
  unfold idxS at hi
  have h1 := fromI_in (F := F) (B := B) (hf := hf) hn
  have h2 := toI_in (T := T) (B := B) (ht := ht) hn
  have h3 := numL_in hB hi
  rcases Int.lt_or_le 0 B with h | h
  · have := h3.1 h; omega
  · have := h3.2 (by omega); omega
theorem same_self {b : Int} {s t : List Int} (h : viewB b s t = true) : sameV b s t b s t = true := sameV_of h h rfl
theorem twice_law {b : Int} {s t : List Int} {d F T B : Int} {hf ht : Bool} {PB : Int} {PS PT : List Int} (h : sliceV b s t d F T B hf ht = (PB, PS, PT, true)) :
    ∃ D : Nat, d = (D : Int) ∧ D < s.length ∧ viewB b s t = true ∧ sliceB F T B hf ht = true ∧ (0 ≤ s.getD D 0 ∧ s.getD D 0 ≤ 60) ∧ (idxS (s.getD D 0) F T B hf ht).length ≤ 60 ∧
      (∀ i ∈ idxS ((idxS (s.getD D 0) F T B hf ht).length : Int) (-1) 0 (-2) true false, 0 ≤ i ∧ i < ((idxS (s.getD D 0) F T B hf ht).length : Int)) ∧
      ∃ X N1 N2 N3, takL (idxS (s.getD D 0) F T B hf ht) (idxS ((idxS (s.getD D 0) F T B hf ht).length : Int) (-1) 0 (-2) true false) = X ∧ (∀ x ∈ X, -1000000 ≤ x ∧ x ≤ 1000000) ∧ normL X = (N1, N2, N3) ∧
      ∃ QB QS QT, sliceV PB PS PT (D : Int) (-1) 0 (-2) true false = (QB, QS, QT, true) ∧ sliceV b s t (D : Int) N1 (if N2 = -1 then 0 else N2) N3 true (!decide (N2 = -1)) = (QB, QS, QT, true) ∧ sameV QB QS QT QB QS QT = true := by
  obtain ⟨D, rfl, hD, hv, hsl, rfl, rfl, rfl⟩ := slice_inv h
  have hs := view_small hv
  have hl := (viewB_in hv).2.1
  have he := hs.2 _ (getD_mem hD)
  have hB := (sliceB_in hsl).2.2.2
  have hLi := idx_in (F := F) (T := T) (hf := hf) (ht := ht) he.1 hB
  have hcv := cut_view (a := fromI (s.getD D 0) F B hf) (e := toI (s.getD D 0) T B ht) hv hD hB hLi
  have hL60 : ((idxS (s.getD D 0) F T B hf ht).length : Int) ≤ 60 := hcv.2
  have hKi := idx_in (n := ((idxS (s.getD D 0) F T B hf ht).length : Int)) (F := -1) (T := 0) (B := -2) (hf := true) (ht := false) (by omega) (by omega)
  obtain ⟨N1, N2, N3, hN⟩ : ∃ N1 N2 N3, normL (takL (idxS (s.getD D 0) F T B hf ht) (idxS ((idxS (s.getD D 0) F T B hf ht).length : Int) (-1) 0 (-2) true false)) = (N1, N2, N3) := ⟨_, _, _, rfl⟩
  refine ⟨D, rfl, hD, hv, hsl, he, by omega, hKi, _, N1, N2, N3, rfl, ?_, hN, ?_⟩
  · intro x hx
    unfold takL at hx
    obtain ⟨i, hi, rfl⟩ := List.mem_map.1 hx
    have hi := hKi i hi
    have := hLi _ (getD_mem (s := idxS (s.getD D 0) F T B hf ht) (d := i.toNat) (by omega))
    omega
  · have hDS : D < (cutS s D (idxS (s.getD D 0) F T B hf ht)).length := by unfold cutS; simpa using hD
    have hS : (cutS s D (idxS (s.getD D 0) F T B hf ht)).getD D 0 = (idxS (s.getD D 0) F T B hf ht).length := by unfold cutS; simp [hD]
    have hdim : dimB (cutB b s t D (idxS (s.getD D 0) F T B hf ht)) (cutS s D (idxS (s.getD D 0) F T B hf ht)) (cutT s t D (idxS (s.getD D 0) F T B hf ht)) (D : Int) = true := by
      unfold dimB; rw [show viewB (cutB b s t D (idxS (s.getD D 0) F T B hf ht)) (cutS s D (idxS (s.getD D 0) F T B hf ht)) (cutT s t D (idxS (s.getD D 0) F T B hf ht)) = true from hcv.1, Bool.true_and]
      simp only [inB, Bool.and_eq_true, decide_eq_true_eq]; omega
    have hdim2 : dimB b s t (D : Int) = true := by unfold dimB inB; rw [hv]; simp; omega
    have q1 := slice_yes hdim (show sliceB (-1) 0 (-2) true false = true by decide)
    rw [hS] at q1
    have hKl : ((idxS ((idxS (s.getD D 0) F T B hf ht).length : Int) (-1) 0 (-2) true false).length : Int) ≤ 60 := by
      rcases num_len_le (by omega) hKi with g | g
      · exact Int.le_trans g hL60
      · unfold idxS at g ⊢; rw [g]; decide
    have hcc := cut_cut (b := b) (a := fromI (s.getD D 0) F B hf) (e := toI (s.getD D 0) T B ht) (c := fromI ((idxS (s.getD D 0) F T B hf ht).length : Int) (-1) (-2) true) (f := toI ((idxS (s.getD D 0) F T B hf ht).length : Int) 0 (-2) false) (p := -2) hs hl hD hB (by omega) hL60 hKl hKi
    have hXn := take_num (a := fromI (s.getD D 0) F B hf) (e := toI (s.getD D 0) T B ht) (c := fromI ((idxS (s.getD D 0) F T B hf ht).length : Int) (-1) (-2) true) (f := toI ((idxS (s.getD D 0) F T B hf ht).length : Int) 0 (-2) false) (p := -2) hB (by omega) hKi
    have hXi : ∀ x ∈ takL (idxS (s.getD D 0) F T B hf ht) (idxS ((idxS (s.getD D 0) F T B hf ht).length : Int) (-1) 0 (-2) true false), 0 ≤ x ∧ x < s.getD D 0 := by
      intro x hx
      unfold takL at hx
      obtain ⟨i, hi, rfl⟩ := List.mem_map.1 hx
      have hi := hKi i hi
      exact hLi _ (getD_mem (s := idxS (s.getD D 0) F T B hf ht) (d := i.toNat) (by omega))
    change cutB _ _ _ D (idxS ((idxS (s.getD D 0) F T B hf ht).length : Int) (-1) 0 (-2) true false) = cutB b s t D (takL (idxS (s.getD D 0) F T B hf ht) (idxS ((idxS (s.getD D 0) F T B hf ht).length : Int) (-1) 0 (-2) true false)) ∧ cutS _ D (idxS ((idxS (s.getD D 0) F T B hf ht).length : Int) (-1) 0 (-2) true false) = cutS s D (takL (idxS (s.getD D 0) F T B hf ht) (idxS ((idxS (s.getD D 0) F T B hf ht).length : Int) (-1) 0 (-2) true false)) ∧ cutT _ _ D (idxS ((idxS (s.getD D 0) F T B hf ht).length : Int) (-1) 0 (-2) true false) = cutT s t D (takL (idxS (s.getD D 0) F T B hf ht) (idxS ((idxS (s.getD D 0) F T B hf ht).length : Int) (-1) 0 (-2) true false)) at hcc
    change takL (idxS (s.getD D 0) F T B hf ht) (idxS ((idxS (s.getD D 0) F T B hf ht).length : Int) (-1) 0 (-2) true false) = _ at hXn
    have hcv2 := (cut_view (a := fromI ((idxS (s.getD D 0) F T B hf ht).length : Int) (-1) (-2) true) (e := toI ((idxS (s.getD D 0) F T B hf ht).length : Int) 0 (-2) false) (q := -2) hcv.1 hDS (by omega) (by
      intro i hi; have := hKi i hi; rw [show (cutS s D (numL (fromI (s.getD D 0) F B hf) (toI (s.getD D 0) T B ht) B)).getD D 0 = (idxS (s.getD D 0) F T B hf ht).length from hS]; exact this)).1
    change viewB (cutB _ _ _ D (idxS ((idxS (s.getD D 0) F T B hf ht).length : Int) (-1) 0 (-2) true false)) (cutS _ D (idxS ((idxS (s.getD D 0) F T B hf ht).length : Int) (-1) 0 (-2) true false)) (cutT _ _ D (idxS ((idxS (s.getD D 0) F T B hf ht).length : Int) (-1) 0 (-2) true false)) = true at hcv2
    have hns := norm_slice (n := s.getD D 0) (N1 := N1) (N2 := N2) (N3 := N3) (Int.mul_ne_zero (by omega : (-2 : Int) ≠ 0) hB) he (by rw [← hXn]; exact hXi) (by rw [← hXn]; exact hN)
    rw [← hXn] at hns
    have q2 := slice_yes hdim2 hns.2
    rw [hns.1, ← hcc.1, ← hcc.2.1, ← hcc.2.2] at q2
    exact ⟨_, _, _, q1, q2, same_self hcv2⟩
end Go.Proofs.Ytgklaobfikbiiaa

/- Plain laws on buffers: what acts leave valid. No condition. -/
namespace Go.Proofs.Ytgklaobfikbiiaa
open Go.RowKit
set_option linter.unusedVariables false
set_option maxRecDepth 100000

/-- the cells of a slice are cells of the view -/
theorem cut_sub {b : Int} {s t : List Int} {d : Nat} {a e q : Int} (h : viewB b s t = true) (hd : d < s.length) (hq : q ≠ 0) (hL : ∀ i ∈ numL a e q, 0 ≤ i ∧ i < s.getD d 0) :
    ∀ y ∈ offsL (cutB b s t d (numL a e q)) (cutS s d (numL a e q)) (cutT s t d (numL a e q)), y ∈ offsL b s t := by
  obtain ⟨h1, h2, h3, h4, h5⟩ := viewB_in h
  have hs := Small.of h1
  have hlen : 0 ≤ ((numL a e q).length : Int) ∧ ((numL a e q).length : Int) ≤ s.getD d 0 := by
    rcases num_len_le hq hL with h' | h' <;> have := (hs.2 _ (getD_mem hd)) <;> omega
  obtain ⟨n1, n2, n3⟩ := norm_two (a := a) (b := e) hq
  have hsm := small_set hs d (x := ((numL a e q).length : Int)) (by have := (hs.2 _ (getD_mem hd)); omega)
  have hv := (cut_view h hd hq hL).1
  intro y hy
  by_cases hc : countL (s.set d ((numL a e q).length : Int)) = 0
  · have h0 : (offsL (cutB b s t d (numL a e q)) (cutS s d (numL a e q)) (cutT s t d (numL a e q))).length = 0 := by
      have := offs_count (b := cutB b s t d (numL a e q)) (s := cutS s d (numL a e q)) (t := cutT s t d (numL a e q))
      unfold cutS at this ⊢
      rw [hc] at this
      simpa using this
    rw [List.eq_nil_of_length_eq_zero h0] at hy
    cases hy
  · rw [view_C hv] at hy
    unfold cutB cutS cutT tidyB tidyT at hy
    rw [if_neg hc, if_neg hc] at hy
    obtain ⟨k1, k2, k3, k4⟩ := hsm.count
    have hp := k4 (by omega)
    have hn0 : (numL a e q).length ≠ 0 := by
      intro h0
      have := hp ((numL a e q).length : Int) (by rw [List.mem_iff_getElem]; exact ⟨d, by simpa using hd, by simp⟩)
      omega
    rw [n1 hn0] at hy
    have hget : ∀ i : Nat, i < (numL a e q).length → 0 ≤ a + i * q ∧ a + i * q < s.getD d 0 := fun i hi => by
      have := hL ((numL a e q)[i]) (List.getElem_mem hi)
      rwa [numL_get] at this
    rw [view_C h]
    by_cases hle : (numL a e q).length ≤ 1
    · rw [if_pos hle] at hy
      refine cut_mem (L0 := a) (q := 0) (n := (numL a e q).length) h2 hd (fun i hi => ?_) y (by rw [Int.zero_mul]; exact hy)
      have := hget i hi
      obtain rfl : i = 0 := by omega
      omega
    · rw [if_neg hle, n3 (by omega)] at hy
      exact cut_mem (L0 := a) (q := q) (n := (numL a e q).length) h2 hd hget y hy
/-- a slice of a view that fits is a view that fits -/
theorem slice_fit {b : Int} {s t : List Int} {d F T B : Int} {hf ht : Bool} {n : Int} (h : (sliceV b s t d F T B hf ht).2.2.2 = true) (hfit : fitB b s t n = true) :
    viewB (sliceV b s t d F T B hf ht).1 (sliceV b s t d F T B hf ht).2.1 (sliceV b s t d F T B hf ht).2.2.1 = true ∧ fitB (sliceV b s t d F T B hf ht).1 (sliceV b s t d F T B hf ht).2.1 (sliceV b s t d F T B hf ht).2.2.1 n = true := by
  obtain ⟨PB, PS, PT, PO, hP⟩ : ∃ PB PS PT PO, sliceV b s t d F T B hf ht = (PB, PS, PT, PO) := ⟨_, _, _, _, rfl⟩
  rw [hP] at h ⊢
  obtain rfl : PO = true := h
  obtain ⟨D, rfl, hD, hv, hsl, rfl, rfl, rfl⟩ := slice_inv hP
  have hn := (shapeB_in (viewB_in hv).1).2.1 _ (getD_mem (s := s) (d := D) hD)
  have hB := (sliceB_in hsl).2.2.2
  refine ⟨(cut_view hv hD hB (idx_in hn.1 hB)).1, ?_⟩
  unfold fitB at hfit ⊢
  rw [List.all_eq_true] at hfit ⊢
  exact fun x hx => hfit x (cut_sub hv hD hB (idx_in hn.1 hB) x hx)

theorem expB_iff {cells : List Int} {es : List Exp} {i : Nat} : expB cells es i = true ↔ (-1 ≤ (expAt es i).par ∧ (expAt es i).par < i ∧ viewB (expAt es i).b (expAt es i).s (expAt es i).t = true ∧
    ((expAt es i).op = true → fitB (expAt es i).b (expAt es i).s (expAt es i).t cells.length = true ∧ ((expAt es i).par < 0 ∨ (expAt es (expAt es i).par.toNat).op = true))) := by
  unfold expB inB
  cases (expAt es i).op <;> simp
  · constructor
    · rintro ⟨⟨h1, h2⟩, h3⟩; exact ⟨h1, by omega, h3⟩
    · rintro ⟨h1, h2, h3⟩; exact ⟨⟨h1, by omega⟩, h3⟩
  · constructor
    · rintro ⟨⟨⟨h1, h2⟩, h3⟩, h4, h5⟩; exact ⟨h1, by omega, h3, h4, h5⟩
    · rintro ⟨h1, h2, h3, h4, h5⟩; exact ⟨⟨⟨h1, by omega⟩, h3⟩, h4, h5⟩
theorem bufB_iff {cells : List Int} {es : List Exp} : bufB cells es = true ↔ memB cells = true ∧ es.length ≤ 8 ∧ ∀ i, i < es.length → expB cells es i = true := by
  constructor
  · intro h
    obtain ⟨h1, -, h2, h3⟩ := bufB_in h
    exact ⟨h1, h2, h3⟩
  · rintro ⟨h1, h2, h3⟩
    unfold bufB expsB
    rw [h1, decide_eq_true h2, Bool.true_and, Bool.true_and, List.all_eq_true]
    exact fun i hi => h3 i (List.mem_range.1 hi)
theorem memB_iff {xs : List Int} : memB xs = true ↔ xs.length ≤ 60 ∧ ∀ x ∈ xs, 0 ≤ x ∧ x ≤ 255 := by
  unfold memB inB
  simp [List.all_eq_true]
/-- other cells, as many -/
theorem buf_cells {cells c2 : List Int} {es : List Exp} (h : bufB cells es = true) (hl : c2.length = cells.length) (hm : ∀ x ∈ c2, 0 ≤ x ∧ x ≤ 255) : bufB c2 es = true := by
  obtain ⟨h1, h2, h3⟩ := bufB_iff.1 h
  refine bufB_iff.2 ⟨memB_iff.2 ⟨by rw [hl]; exact (memB_iff.1 h1).1, hm⟩, h2, fun i hi => ?_⟩
  have := h3 i hi
  unfold expB at this ⊢
  rw [hl]; exact this
theorem mem_set_of {xs : List Int} {i : Nat} {v : Int} (h : ∀ x ∈ xs, 0 ≤ x ∧ x ≤ 255) (hv : 0 ≤ v ∧ v ≤ 255) : ∀ x ∈ xs.set i v, 0 ≤ x ∧ x ≤ 255 := fun x hx => by
  rcases List.mem_or_eq_of_mem_set hx with h1 | rfl
  · exact h x h1
  · exact hv
theorem fillUp_mem {mem ix : List Int} {v : Int} (h : ∀ x ∈ mem, 0 ≤ x ∧ x ≤ 255) (hv : 0 ≤ v ∧ v ≤ 255) (k : Nat) : ∀ x ∈ fillUp mem ix v k, 0 ≤ x ∧ x ≤ 255 := by
  induction k with
  | zero => exact h
  | succ k ih => rw [fillUp_succ]; exact mem_set_of ih hv
theorem putUp_mem {mem ix vs : List Int} (h : ∀ x ∈ mem, 0 ≤ x ∧ x ≤ 255) (hv : ∀ i, 0 ≤ vs.getD i 0 ∧ vs.getD i 0 ≤ 255) (k : Nat) : ∀ x ∈ putUp mem ix vs k, 0 ≤ x ∧ x ≤ 255 := by
  induction k with
  | zero => exact h
  | succ k ih => rw [putUp_succ]; exact mem_set_of ih (hv k)
theorem getD_in {xs : List Int} (h : ∀ x ∈ xs, 0 ≤ x ∧ x ≤ 255) (i : Nat) : 0 ≤ xs.getD i 0 ∧ xs.getD i 0 ≤ 255 := by
  rcases Nat.lt_or_ge i xs.length with hi | hi
  · exact h _ (getD_mem hi)
  · rw [List.getD_eq_getElem?_getD, List.getElem?_eq_none hi]; decide
theorem filA_valid {cells : List Int} {es : List Exp} {i v : Int} (h : (filA cells es i v).2.2 = true) : bufB (filA cells es i v).1 (filA cells es i v).2.1 = true := by
  unfold filA at h ⊢
  split at h
  · rename_i hc
    rw [if_pos hc]
    simp only [Bool.and_eq_true] at hc
    have hm := (memB_iff.1 (bufB_iff.1 hc.1.1).1).2
    have hb : fillB cells (expAt es i.toNat).b (expAt es i.toNat).s (expAt es i.toNat).t v = true := by unfold fillB; rw [open_holds hc.1.1 hc.1.2, hc.2]; rfl
    refine buf_cells hc.1.1 (fillA_len hb) ?_
    unfold fillA
    rw [if_pos hb]
    refine fillUp_mem hm ?_ _
    have := hc.2
    unfold inB at this
    simpa using this
  · cases h
theorem cpyA_valid {cells : List Int} {es : List Exp} {i j : Int} (h : (cpyA cells es i j).2.2 = true) : bufB (cpyA cells es i j).1 (cpyA cells es i j).2.1 = true := by
  unfold cpyA at h ⊢
  split at h
  · rename_i hc
    rw [if_pos hc]
    rw [Bool.and_eq_true, Bool.and_eq_true] at hc
    have hm := (memB_iff.1 (bufB_iff.1 hc.1.1).1).2
    refine buf_cells hc.1.1 (copyA_len hc.2) ?_
    unfold copyA
    rw [if_pos hc.2]
    unfold putL
    refine putUp_mem hm (fun k => ?_) _
    refine getD_in (fun x hx => ?_) k
    unfold loadL takL at hx
    obtain ⟨q, -, rfl⟩ := List.mem_map.1 hx
    exact getD_in hm _
  · cases h
theorem resA_valid {cells : List Int} {es : List Exp} {n : Int} (h : (resA cells es n).2.2 = true) : bufB (resA cells es n).1 (resA cells es n).2.1 = true := by
  unfold resA at h ⊢
  split at h
  · rename_i hc
    rw [if_pos hc]
    simp only [Bool.and_eq_true, decide_eq_true_eq] at hc
    obtain ⟨h1, h2, h3⟩ := bufB_iff.1 hc.1
    have hin := hc.2.1
    unfold inB at hin
    simp only [Bool.and_eq_true, decide_eq_true_eq] at hin
    refine bufB_iff.2 ⟨memB_iff.2 ⟨by rw [fitL_len]; omega, fun x hx => ?_⟩, h2, fun i hi => ?_⟩
    · unfold fitL at hx
      rcases List.mem_append.1 hx with h' | h'
      · exact (memB_iff.1 h1).2 x (List.mem_of_mem_take h')
      · have := List.eq_of_mem_replicate h'; omega
    · obtain ⟨e1, e2, e3, -⟩ := expB_iff.1 (h3 i hi)
      refine expB_iff.2 ⟨e1, e2, e3, fun ho => ?_⟩
      exfalso
      have : (i : Int) ∈ selL opP es es.length := by
        unfold selL
        exact List.mem_map.2 ⟨i, List.mem_filter.2 ⟨List.mem_range.2 hi, ho⟩, rfl⟩
      rw [List.eq_nil_of_length_eq_zero hc.2.2] at this
      cases this
  · cases h
/-- one export more -/
theorem buf_app {cells : List Int} {es : List Exp} {e : Exp} (h : bufB cells es = true) (hn : es.length < 8) (h1 : -1 ≤ e.par ∧ e.par < es.length) (h2 : viewB e.b e.s e.t = true)
    (h3 : e.op = true → fitB e.b e.s e.t cells.length = true ∧ (e.par < 0 ∨ (expAt es e.par.toNat).op = true)) : bufB cells (es ++ [e]) = true := by
  obtain ⟨g1, g2, g3⟩ := bufB_iff.1 h
  refine bufB_iff.2 ⟨g1, by simp; omega, fun i hi => ?_⟩
  rw [List.length_append, List.length_singleton] at hi
  have hpar : ∀ q : Int, q < es.length → (q < 0 ∨ (expAt es q.toNat).op = true) → (q < 0 ∨ (expAt (es ++ [e]) q.toNat).op = true) := fun q hq hx => by
    rcases hx with hx | hx
    · exact .inl hx
    · rcases Int.lt_or_le q 0 with h0 | h0
      · exact .inl h0
      · right; rw [expAt_app1 (by omega)]; exact hx
  by_cases hl : i < es.length
  · obtain ⟨e1, e2, e3, e4⟩ := expB_iff.1 (g3 i hl)
    refine expB_iff.2 ?_
    rw [expAt_app1 hl]
    exact ⟨e1, e2, e3, fun ho => ⟨(e4 ho).1, hpar _ (by omega) (e4 ho).2⟩⟩
  · obtain rfl : i = es.length := by omega
    refine expB_iff.2 ?_
    rw [expAt_app2]
    exact ⟨h1.1, h1.2, h2, fun ho => ⟨(h3 ho).1, hpar _ h1.2 (h3 ho).2⟩⟩
theorem expA_valid {cells : List Int} {es : List Exp} {b : Int} {s t : List Int} (h : (expA cells es b s t).2.2 = true) : bufB (expA cells es b s t).1 (expA cells es b s t).2.1 = true := by
  unfold expA at h ⊢
  split at h
  · rename_i hc
    rw [if_pos hc]
    simp only [Bool.and_eq_true, decide_eq_true_eq] at hc
    exact buf_app hc.1 hc.2.2.2 ⟨by show (-1 : Int) ≤ -1; omega, by show (-1 : Int) < es.length; omega⟩ hc.2.1 (fun _ => ⟨hc.2.2.1, .inl (by show (-1 : Int) < 0; omega)⟩)
  · cases h
theorem parA_valid {cells : List Int} {es : List Exp} {i d F T B : Int} {hf ht : Bool} (h : (parA cells es i d F T B hf ht).2.2 = true) : bufB (parA cells es i d F T B hf ht).1 (parA cells es i d F T B hf ht).2.1 = true := by
  unfold parA at h ⊢
  split at h
  · rename_i hc
    rw [if_pos hc]
    simp only [Bool.and_eq_true, decide_eq_true_eq] at hc
    obtain ⟨o0, o1, o2⟩ := opB_in hc.1.1.2
    have hfit := expB_fit ((bufB_iff.1 hc.1.1.1).2.2 _ o1) o2
    obtain ⟨v1, v2⟩ := slice_fit hc.2 hfit
    exact buf_app hc.1.1.1 hc.1.2 ⟨by show (-1 : Int) ≤ i; omega, by show i < (es.length : Int); omega⟩ v1 (fun _ => ⟨v2, .inr o2⟩)
  · cases h
theorem relA_valid {cells : List Int} {es : List Exp} {i : Int} (h : (relA cells es i).2.2 = true) : bufB (relA cells es i).1 (relA cells es i).2.1 = true := by
  unfold relA at h ⊢
  split at h
  · rename_i hc
    rw [if_pos hc]
    simp only [Bool.and_eq_true, decide_eq_true_eq] at hc
    obtain ⟨o0, o1, o2⟩ := opB_in hc.1.2
    obtain ⟨g1, g2, g3⟩ := bufB_iff.1 hc.1.1
    refine bufB_iff.2 ⟨g1, by simpa using g2, fun j hj => ?_⟩
    rw [List.length_set] at hj
    obtain ⟨e1, e2, e3, e4⟩ := expB_iff.1 (g3 j hj)
    refine expB_iff.2 ?_
    rw [expAt_set es _ _ j o1]
    by_cases hji : j = i.toNat
    · subst hji
      rw [if_pos rfl]
      exact ⟨e1, e2, e3, fun ho => by cases ho⟩
    · rw [if_neg hji]
      refine ⟨e1, e2, e3, fun ho => ⟨(e4 ho).1, ?_⟩⟩
      rcases (e4 ho).2 with hp | hp
      · exact .inl hp
      · rcases Int.lt_or_le (expAt es j).par 0 with h0 | h0
        · exact .inl h0
        · right
          rw [expAt_set es _ _ _ o1]
          by_cases hq : (expAt es j).par.toNat = i.toNat
          · exfalso
            have : (j : Int) ∈ selL (kidP i) es es.length := by
              unfold selL kidP
              refine List.mem_map.2 ⟨j, List.mem_filter.2 ⟨List.mem_range.2 hj, ?_⟩, rfl⟩
              rw [ho, Bool.true_and]
              exact decide_eq_true (by omega)
            rw [List.eq_nil_of_length_eq_zero hc.2] at this
            cases this
          · rw [if_neg hq]; exact hp
  · cases h
end Go.Proofs.Ytgklaobfikbiiaa

/- Plain laws on buffers: how many exports there are behind an act; what is loaded. No condition. -/
namespace Go.Proofs.Ytgklaobfikbiiaa
open Go.RowKit
set_option linter.unusedVariables false
set_option maxRecDepth 100000

theorem expA_more {cells : List Int} {es : List Exp} {b : Int} {s t : List Int} {C2 : List Int} {E2 : List Exp} (h : expA cells es b s t = (C2, E2, true)) : ∃ m, E2.length = m + 1 ∧ m < 10 := by
  have hv : bufB C2 E2 = true := by have := expA_valid (h := (show (expA cells es b s t).2.2 = true by rw [h])); rw [h] at this; exact this
  have h8 := (bufB_iff.1 hv).2.1
  unfold expA at h
  split at h
  · cases h; exact ⟨es.length, by simp, by simp at h8; omega⟩
  · cases h
theorem parA_more {cells : List Int} {es : List Exp} {i d F T B : Int} {hf ht : Bool} {C2 : List Int} {E2 : List Exp} (h : parA cells es i d F T B hf ht = (C2, E2, true)) : ∃ m, E2.length = m + 1 ∧ m < 10 := by
  have hv : bufB C2 E2 = true := by have := parA_valid (h := (show (parA cells es i d F T B hf ht).2.2 = true by rw [h])); rw [h] at this; exact this
  have h8 := (bufB_iff.1 hv).2.1
  unfold parA at h
  split at h
  · cases h; exact ⟨es.length, by simp, by simp at h8; omega⟩
  · cases h
theorem load_len {mem : List Int} {b : Int} {s t : List Int} (h : holdB mem b s t = true) : (loadL mem b s t).length ≤ 60 := by
  unfold loadL; rw [takL_len]; exact (fill_in h).2.2.2
theorem load_mem {mem : List Int} {b : Int} {s t : List Int} (h : holdB mem b s t = true) : ∀ x ∈ loadL mem b s t, 0 ≤ x ∧ x ≤ 255 := by
  intro x hx
  unfold loadL takL at hx
  obtain ⟨q, -, rfl⟩ := List.mem_map.1 hx
  exact getD_in (memB_iff.1 (hold_in h).1).2 _
end Go.Proofs.Ytgklaobfikbiiaa
