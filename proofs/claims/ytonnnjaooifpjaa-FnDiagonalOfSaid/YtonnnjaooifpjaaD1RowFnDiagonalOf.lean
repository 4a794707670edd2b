/- Texts of these proofs put together: KitC, DelA, DelB, LvA, LvB, LvF, LvE, LvH, LvG, LvI, LvJ, PureP, PureS, DelC, KitD, KitF, PureE, PureF, LvS, LvR, PureG, InsA, PureI, PureT, SliA, SliB, SliC, PureU, WnA, PureR, PureJ, PureL, DgA, DelD, DelE, KitE, KitG. No condition. -/
import Derived.Test.YtonnnjaooifpjaaM3
import Derived.Test.YtonnnjaooifpjaaM1
import Derived.Test.YtonnnjaooifpjaaM2
import Derived.Test.YtonnnjaooifpjaaM4
import Derived.Shelf.Spec.SlicesInsertGrow
set_option linter.unusedVariables false
set_option linter.unusedSimpArgs false
/- Helpers of walks: capacities, two rows that grow. -/
namespace Go.Proofs.Ytonnnjaooifpjaa
open Go.RowKit
set_option linter.unusedVariables false

theorem Ints.capLe {w : World} {lo : Nat} {a : Option Addr} {n c : Nat} {xs : List Int} (h : Ints w lo (.slice a n c) xs) : n ≤ c ∧ c ≤ maxLen := by
  obtain ⟨a', c', e, h1, h2, _⟩ := h
  cases e
  exact ⟨h1, h2⟩
theorem PViewB.two {w w' : World} {B : Nat} {b : Int} {s t : List Int} {v1 v2 : Value} (T : Two B w' v1 v2 s t) (hB : w.heap.size ≤ B) (hs : s.length ≤ 1000) (ht : t.length ≤ 1000) (hx : Ext w w') :
    PViewB w b s t true (.returned (.tuple #[.agg #[.int .i64 b, v1, v2], .bool true])) w' :=
  ⟨_, _, rfl, (T.o1.ints (by omega)).lower hB, (T.o2.ints (by omega)).lower hB, (T.o1.lower hB).z, (T.o2.lower hB).z,
    (fun n1 n2 h => by obtain ⟨g, _, h1, _⟩ := (T.o1).row n1; rw [h1] at h; exact T.sep g (by rw [h1]; rfl) (h ▸ rfl)), hx⟩
theorem pi_eq {w w0 : World} {xs ys : List Int} {f : Nat} {args : Array Value} (he : xs = ys) (h : Calls Try.prog f args w (PInts w0 xs)) : Calls Try.prog f args w (PInts w0 ys) := he ▸ h
theorem pv_eq {w w0 : World} {x : VBool} {B : Int} {S T : List Int} {o : Bool} {f : Nat} {args : Array Value} (he : x = (B, S, T, o)) (h : Calls Try.prog f args w (PVB w0 x)) : Calls Try.prog f args w (PViewB w0 B S T o) := by subst he; exact h
end Go.Proofs.Ytonnnjaooifpjaa

/- Walks: slices.Delete of one number of a row of one's own. -/
namespace Go.Proofs.Ytonnnjaooifpjaa
open Go.RowKit
set_option linter.unusedVariables false
set_option maxRecDepth 100000

def delL (xs : List Int) (i : Nat) : List Int := xs.take i ++ xs.drop (i + 1)
theorem delL_len (xs : List Int) (i : Nat) (h : i < xs.length) : (delL xs i).length = xs.length - 1 := by unfold delL; simp; omega
theorem setCells_chg (g : Nat) : ∀ (vs : List Value) (o : Nat) (w : World), Chg g (g + 1) w (w.setCells g o vs)
  | [], _, w => Chg.refl _ _ _
  | v :: r, o, w => by
    have h1 : Chg g (g + 1) w (w.setCell ⟨g, o, none⟩ v) := Chg.setCell (p := ⟨g, o, none⟩) (Chg.refl g (g + 1) _) (Nat.le_refl _) (Nat.lt_succ_self _) v
    exact h1.trans (setCells_chg g r (o + 1) _)
theorem setCells_frz (g : Nat) : ∀ (vs : List Value) (o : Nat) (w : World) (a : Addr), (w.setCells g o vs).frozen? a = w.frozen? a
  | [], _, _, _ => rfl
  | v :: r, o, w, a => by
    rw [World.setCells, setCells_frz g r (o + 1) _ a]
    first | (simp; done) | go_simp
set_option maxHeartbeats 1600000 in
theorem delete_c (xs : List Int) (g n c B i : Nat) (w : World) (O : OwnI w B (.slice (some ⟨g, 0, none⟩) n c) xs) (hi : i < xs.length) (hl : xs.length ≤ 1000) :
    Calls Try.prog 90 #[.slice (some ⟨g, 0, none⟩) n c, .int .i64 (i : Int), .int .i64 ((i : Int) + 1)] w fun e w' =>
      e = .returned (.slice (some ⟨g, 0, none⟩) (n - 1) c) ∧ Ints w' B (.slice (some ⟨g, 0, none⟩) (n - 1) c) (delL xs i) ∧ Chg g (g + 1) w w' := by
  have I := O.ints (by omega)
  have hcap := I.capLe
  unfold maxLen at hcap
  obtain ⟨a', c', e, h1, h2, h3, h4⟩ := I
  cases e
  have hc := fun j hj => O.cell j hj
  obtain ⟨b0, o0, e0, hB, _⟩ := h4 0 (by omega)
  cases e0
  have key := Try.slices_Delete_int_cells g 0 xs.length c i (i + 1) xs w (Nat.le_refl _) hcap.1 (by omega) (by omega) (by omega) (fun j hj => by rw [Nat.zero_add]; exact (hc j hj).1) (fun j hj => by rw [Nat.zero_add]; exact (hc j hj).2)
  rw [show (((i + 1 : Nat)) : Int) = (i : Int) + 1 by omega] at key
  refine key.mono ?_
  rintro e w' ⟨rfl, q, rfl⟩
  have he : xs.length - (i + 1 - i) = xs.length - 1 := by omega
  rw [he]
  have K : Chg g (g + 1) w ((w.drewN q).setCells g 0 (((xs.take xs.length).take i ++ (xs.take xs.length).drop (i + 1) ++ List.replicate (i + 1 - i) 0).map (Value.int .i64))) :=
    (Chg.of_ext ((Ext.refl w).drewN q)).trans (setCells_chg g _ 0 _)
  refine ⟨rfl, ?_, K⟩
  have hd := delL_len xs i hi
  have hlen : (((xs.take xs.length).take i ++ (xs.take xs.length).drop (i + 1) ++ List.replicate (i + 1 - i) 0).map (Value.int .i64)).length = xs.length := by
    simp only [List.take_length, List.length_map, List.length_append, List.length_take, List.length_drop, List.length_replicate]; omega
  refine ⟨_, c, by rw [hd], by rw [hd]; omega, by unfold maxLen; omega, ⟨by rw [hd]; omega, fun h => by cases h⟩, fun j hj => ?_⟩
  rw [hd] at hj
  refine ⟨g, 0, rfl, hB, ?_, ?_⟩
  · have hin := World.cell?_setCells_in g (((xs.take xs.length).take i ++ (xs.take xs.length).drop (i + 1) ++ List.replicate (i + 1 - i) 0).map (Value.int .i64)) 0 (w.drewN q) (fun m hm => by
      rw [hlen] at hm
      rw [Nat.zero_add, show (w.drewN q).cell? ⟨g, m, none⟩ = w.cell? ⟨g, m, none⟩ by first | rfl | simp, (hc m hm).1]; rfl) j (by rw [hlen]; omega)
    rw [hin]
    simp only [List.getElem_map, List.take_length]
    congr 2
    unfold delL
    have hj2 : j < (xs.take i ++ xs.drop (i + 1)).length := by simp; omega
    rw [List.getElem_append_left hj2, List.getD_eq_getElem?_getD, List.getElem?_eq_getElem hj2]; rfl
  · rw [setCells_frz, show (w.drewN q).frozen? ⟨g, 0 + j, none⟩ = w.frozen? ⟨g, 0 + j, none⟩ by first | rfl | simp, Nat.zero_add]
    exact (hc j (by omega)).2
theorem Ints.chgN {w w' : World} {lo l h g o n c : Nat} {xs : List Int} (I : Ints w lo (.slice (some ⟨g, o, none⟩) n c) xs) (k : Chg l h w w') (hg : g < l ∨ h ≤ g) : Ints w' lo (.slice (some ⟨g, o, none⟩) n c) xs := by
  obtain ⟨a', c', e, h1, h2, h3, h4⟩ := I
  cases e
  refine ⟨_, _, rfl, h1, h2, h3, fun i hi => ?_⟩
  obtain ⟨b, of, ha, hb, hc, hf⟩ := h4 i hi
  cases ha
  exact ⟨_, _, rfl, hb, k.cell hg hc, k.frzO hg (qB hc) hf⟩
/-- a call hands back a view -/
def PVW (w : World) (b : Int) (s t : List Int) (e : Ending) (w' : World) : Prop := ∃ u v, e = .returned (.agg #[.int .i64 b, u, v]) ∧ Ints w' w.heap.size u s ∧ Ints w' w.heap.size v t ∧ Ext w w'
/-- a call hands back a view and whether there is one -/
def PVWB (w : World) (b : Int) (s t : List Int) (ok : Bool) (e : Ending) (w' : World) : Prop := ∃ u v, e = .returned (.tuple #[.agg #[.int .i64 b, u, v], .bool ok]) ∧ Ints w' w.heap.size u s ∧ Ints w' w.heap.size v t ∧ Ext w w'
theorem PVWB.no {w w' : World} (h : Ext w w') : PVWB w 0 [] [] false (.returned (.tuple #[.agg #[.int .i64 0, .slice none 0 0, .slice none 0 0], .bool false])) w' :=
  ⟨_, _, rfl, Ints.nil _ _ _ _ (by simp) (fun _ => rfl), Ints.nil _ _ _ _ (by simp) (fun _ => rfl), h⟩
end Go.Proofs.Ytonnnjaooifpjaa

/- Walks: views without a dimension, of the program. -/
namespace Go.Proofs.Ytonnnjaooifpjaa
open Go.RowKit
set_option linter.unusedVariables false
set_option maxRecDepth 100000

set_option maxHeartbeats 3200000 in
theorem withoutDim_c (b1 : Int) (u1 v1 : Value) (s1 t1 : List Int) (d : Nat) (w : World) (l1 m1 : Nat) (h1 : Ints w l1 u1 s1) (k1 : Ints w m1 v1 t1) (hd : d < s1.length) (hl : t1.length = s1.length) (h4 : s1.length ≤ 4) :
    Calls Try.prog 99 #[.agg #[.int .i64 b1, u1, v1], .int .i64 (d : Int)] w (PVW w b1 (delL s1 d) (delL t1 d)) := by
  have hd2 : d < t1.length := by omega
  have hne1 : s1 ≠ [] := fun h => by rw [h] at hd; simp at hd
  have hne2 : t1 ≠ [] := fun h => by rw [h] at hd2; simp at hd2
  obtain ⟨a1, cp1, rfl⟩ := h1.form
  obtain ⟨a2, cp2, rfl⟩ := k1.form
  replace hl := Lib.hid hl
  replace hne1 := Lib.hid hne1
  replace hne2 := Lib.hid hne2
  go_enter Try.func99, Try.ntmps99
  go_wp2_with fail
  refine (copyView_c b1 _ _ s1 t1 _ l1 m1 (h1.ext qXo) (k1.ext qXo)).mono ?_
  rintro e w1 ⟨x1, x2, rfl, -, -, o1, o2, od, xw1⟩
  have Lw1 : Ext w w1 := Ext.trans qXt xw1
  have Xw1 : Ext w w1 := Lw1
  have va0 : w1.cell? ⟨w.heap.size, 0, none⟩ = some (.int .i64 b1) := xw1.cell qCl
  have va1 : w1.cell? ⟨w.heap.size, 1, none⟩ = some (.slice a1 s1.length cp1) := xw1.cell qCl
  have va2 : w1.cell? ⟨w.heap.size, 2, none⟩ = some (.slice a2 t1.length cp2) := xw1.cell qCl
  have q0 : w1.cell? ⟨w.heap.size + 1, 0, none⟩ = some (.int .i64 0) := xw1.cell qCl
  have q1 : w1.cell? ⟨w.heap.size + 1, 1, none⟩ = some (.slice none 0 0) := xw1.cell qCl
  have q2 : w1.cell? ⟨w.heap.size + 1, 2, none⟩ = some (.slice none 0 0) := xw1.cell qCl
  have f_q0 : w1.frozen? ⟨w.heap.size + 1, 0, none⟩ = false := xw1.frz (by simp <;> omega) qFz
  have f_q1 : w1.frozen? ⟨w.heap.size + 1, 1, none⟩ = false := xw1.frz (by simp <;> omega) qFz
  have f_q2 : w1.frozen? ⟨w.heap.size + 1, 2, none⟩ = false := xw1.frz (by simp <;> omega) qFz
  have z_va : w.heap.size < w1.heap.size := qB va0
  have z_q : w.heap.size + 1 < w1.heap.size := qB q0
  have s_w1 : w.heap.size ≤ w1.heap.size := Xw1.size
  clear xw1
  have O1 := (o1.ofNe hne1.out).lower (show w.heap.size + 2 ≤ _ by simp)
  have O2 := (o2.ofNe hne2.out).lower (show w.heap.size + 2 ≤ _ by simp)
  clear o1 o2
  obtain ⟨g1, r1, rfl, G1, G1'⟩ := O1.row hne1.out
  obtain ⟨g2, r2, rfl, G2, G2'⟩ := O2.row hne2.out
  have hgg : g1 ≠ g2 := fun h => od hne1.out hne2.out (by rw [h]; rfl)
  clear od
  go_wp2_with fail
  generalize hW1 : w1.alloc (.cells #[.int .i64 b1, .slice (some ⟨g1, 0, none⟩) s1.length r1, .slice (some ⟨g2, 0, none⟩) t1.length r2] 25) = w2 at *
  have Lw2 : Ext w1 w2 := by subst hW1; exact qXt
  have Xw2 : Ext w w2 := Xw1.trans Lw2
  replace va0 := Lw2.cell va0
  replace va1 := Lw2.cell va1
  replace va2 := Lw2.cell va2
  replace q0 := Lw2.cell q0
  replace q1 := Lw2.cell q1
  replace q2 := Lw2.cell q2
  replace f_q0 := Lw2.frz z_q f_q0
  replace f_q1 := Lw2.frz z_q f_q1
  replace f_q2 := Lw2.frz z_q f_q2
  have y0 : w2.cell? ⟨w1.heap.size, 0, none⟩ = some (.int .i64 b1) := by subst hW1; exact qCl
  have y1 : w2.cell? ⟨w1.heap.size, 1, none⟩ = some (.slice (some ⟨g1, 0, none⟩) s1.length r1) := by subst hW1; exact qCl
  have y2 : w2.cell? ⟨w1.heap.size, 2, none⟩ = some (.slice (some ⟨g2, 0, none⟩) t1.length r2) := by subst hW1; exact qCl
  have f_y0 : w2.frozen? ⟨w1.heap.size, 0, none⟩ = false := by subst hW1; exact qFz
  have f_y1 : w2.frozen? ⟨w1.heap.size, 1, none⟩ = false := by subst hW1; exact qFz
  have f_y2 : w2.frozen? ⟨w1.heap.size, 2, none⟩ = false := by subst hW1; exact qFz
  have z_va : w.heap.size < w2.heap.size := qB va0
  have z_q : w.heap.size + 1 < w2.heap.size := qB q0
  have z_y : w1.heap.size < w2.heap.size := qB y0
  replace O1 := O1.ext Lw2
  replace O2 := O2.ext Lw2
  have s_w2 : w.heap.size ≤ w2.heap.size := Xw2.size
  clear hW1
  have hOI1 := O1
  clear O1
  go_wp2_with fail
  refine (delete_c s1 g1 _ r1 _ d _ (hOI1.ext qXt) hd (by have := hl.out; omega)).mono ?_
  rintro e w3 ⟨rfl, I1, Cw3⟩
  have zc_w3 := Cw3.size
  have Xw3 : Ext w w3 := Rch.toExt' Cw3 (by omega) (Xw2)
  replace va0 := Cw3.cell (by omega) va0
  replace va1 := Cw3.cell (by omega) va1
  replace va2 := Cw3.cell (by omega) va2
  replace q0 := Cw3.cell (by omega) q0
  replace f_q0 := Cw3.frzO (by omega) (by omega) f_q0
  replace q1 := Cw3.cell (by omega) q1
  replace f_q1 := Cw3.frzO (by omega) (by omega) f_q1
  replace q2 := Cw3.cell (by omega) q2
  replace f_q2 := Cw3.frzO (by omega) (by omega) f_q2
  replace y0 := Cw3.cell (by omega) y0
  replace f_y0 := Cw3.frzO (by omega) (by omega) f_y0
  replace y1 := Cw3.cell (by omega) y1
  replace f_y1 := Cw3.frzO (by omega) (by omega) f_y1
  replace y2 := Cw3.cell (by omega) y2
  replace f_y2 := Cw3.frzO (by omega) (by omega) f_y2
  have z_va : w.heap.size < w3.heap.size := qB va0
  have z_q : w.heap.size + 1 < w3.heap.size := qB q0
  have z_y : w1.heap.size < w3.heap.size := qB y0
  replace O2 := O2.chgN Cw3 (by omega)
  have s_w3 : w.heap.size ≤ w3.heap.size := Xw3.size
  clear Cw3
  clear hOI1
  go_wp2_with fail
  generalize hW2 : (w3.setCell ⟨w1.heap.size, 1, none⟩ (.slice (some ⟨g1, 0, none⟩) (s1.length - 1) r1)) = w4 at *
  have Kw4 : Chg (w1.heap.size) (w1.heap.size + 1) w3 w4 := by subst hW2; exact qCh
  have Xw4 : Ext w w4 := by subst hW2; exact qXt
  replace va0 := Kw4.cell (by omega) va0
  replace va1 := Kw4.cell (by omega) va1
  replace va2 := Kw4.cell (by omega) va2
  replace q0 := Kw4.cell (by omega) q0
  replace f_q0 := Kw4.frzO (by omega) z_q f_q0
  replace q1 := Kw4.cell (by omega) q1
  replace f_q1 := Kw4.frzO (by omega) z_q f_q1
  replace q2 := Kw4.cell (by omega) q2
  replace f_q2 := Kw4.frzO (by omega) z_q f_q2
  replace y0 : w4.cell? ⟨w1.heap.size, 0, none⟩ = some (.int .i64 b1) := by subst hW2; go_simp
  replace f_y0 : w4.frozen? ⟨w1.heap.size, 0, none⟩ = false := by subst hW2; go_simp
  replace y1 : w4.cell? ⟨w1.heap.size, 1, none⟩ = some (.slice (some ⟨g1, 0, none⟩) (s1.length - 1) r1) := by subst hW2; go_simp
  replace f_y1 : w4.frozen? ⟨w1.heap.size, 1, none⟩ = false := by subst hW2; go_simp
  replace y2 : w4.cell? ⟨w1.heap.size, 2, none⟩ = some (.slice (some ⟨g2, 0, none⟩) t1.length r2) := by subst hW2; go_simp
  replace f_y2 : w4.frozen? ⟨w1.heap.size, 2, none⟩ = false := by subst hW2; go_simp
  replace O2 := O2.chgN Kw4 (by omega)
  replace I1 := I1.chgN Kw4 (by omega)
  clear Kw4
  have z_va : w.heap.size < w4.heap.size := qB va0
  have z_q : w.heap.size + 1 < w4.heap.size := qB q0
  have z_y : w1.heap.size < w4.heap.size := qB y0
  have s_w4 : w.heap.size ≤ w4.heap.size := Xw4.size
  clear hW2
  have hOI2 := O2
  clear O2
  go_wp2_with fail
  refine (delete_c t1 g2 _ r2 _ d _ (hOI2.ext qXt) hd2 (by have := hl.out; omega)).mono ?_
  rintro e w5 ⟨rfl, I2, Cw5⟩
  have zc_w5 := Cw5.size
  have Xw5 : Ext w w5 := Rch.toExt' Cw5 (by omega) (Xw4)
  replace va0 := Cw5.cell (by omega) va0
  replace va1 := Cw5.cell (by omega) va1
  replace va2 := Cw5.cell (by omega) va2
  replace q0 := Cw5.cell (by omega) q0
  replace f_q0 := Cw5.frzO (by omega) (by omega) f_q0
  replace q1 := Cw5.cell (by omega) q1
  replace f_q1 := Cw5.frzO (by omega) (by omega) f_q1
  replace q2 := Cw5.cell (by omega) q2
  replace f_q2 := Cw5.frzO (by omega) (by omega) f_q2
  replace y0 := Cw5.cell (by omega) y0
  replace f_y0 := Cw5.frzO (by omega) (by omega) f_y0
  replace y1 := Cw5.cell (by omega) y1
  replace f_y1 := Cw5.frzO (by omega) (by omega) f_y1
  replace y2 := Cw5.cell (by omega) y2
  replace f_y2 := Cw5.frzO (by omega) (by omega) f_y2
  have z_va : w.heap.size < w5.heap.size := qB va0
  have z_q : w.heap.size + 1 < w5.heap.size := qB q0
  have z_y : w1.heap.size < w5.heap.size := qB y0
  replace I1 := I1.chgN Cw5 (by omega)
  have s_w5 : w.heap.size ≤ w5.heap.size := Xw5.size
  clear Cw5
  clear hOI2
  go_wp2_with fail
  generalize hW3 : (w5.setCell ⟨w1.heap.size, 2, none⟩ (.slice (some ⟨g2, 0, none⟩) (t1.length - 1) r2)) = w6 at *
  have Kw6 : Chg (w1.heap.size) (w1.heap.size + 1) w5 w6 := by subst hW3; exact qCh
  have Xw6 : Ext w w6 := by subst hW3; exact qXt
  replace va0 := Kw6.cell (by omega) va0
  replace va1 := Kw6.cell (by omega) va1
  replace va2 := Kw6.cell (by omega) va2
  replace q0 := Kw6.cell (by omega) q0
  replace f_q0 := Kw6.frzO (by omega) z_q f_q0
  replace q1 := Kw6.cell (by omega) q1
  replace f_q1 := Kw6.frzO (by omega) z_q f_q1
  replace q2 := Kw6.cell (by omega) q2
  replace f_q2 := Kw6.frzO (by omega) z_q f_q2
  replace y0 : w6.cell? ⟨w1.heap.size, 0, none⟩ = some (.int .i64 b1) := by subst hW3; go_simp
  replace f_y0 : w6.frozen? ⟨w1.heap.size, 0, none⟩ = false := by subst hW3; go_simp
  replace y1 : w6.cell? ⟨w1.heap.size, 1, none⟩ = some (.slice (some ⟨g1, 0, none⟩) (s1.length - 1) r1) := by subst hW3; go_simp
  replace f_y1 : w6.frozen? ⟨w1.heap.size, 1, none⟩ = false := by subst hW3; go_simp
  replace y2 : w6.cell? ⟨w1.heap.size, 2, none⟩ = some (.slice (some ⟨g2, 0, none⟩) (t1.length - 1) r2) := by subst hW3; go_simp
  replace f_y2 : w6.frozen? ⟨w1.heap.size, 2, none⟩ = false := by subst hW3; go_simp
  replace I1 := I1.chgN Kw6 (by omega)
  replace I2 := I2.chgN Kw6 (by omega)
  clear Kw6
  have z_va : w.heap.size < w6.heap.size := qB va0
  have z_q : w.heap.size + 1 < w6.heap.size := qB q0
  have z_y : w1.heap.size < w6.heap.size := qB y0
  have s_w6 : w.heap.size ≤ w6.heap.size := Xw6.size
  clear hW3
  go_wp2_with fail
  generalize hW4 : (((w6.setCell ⟨w.heap.size + 1, 0, none⟩ (.int .i64 b1)).setCell ⟨w.heap.size + 1, 1, none⟩ (.slice (some ⟨g1, 0, none⟩) (s1.length - 1) r1)).setCell ⟨w.heap.size + 1, 2, none⟩ (.slice (some ⟨g2, 0, none⟩) (t1.length - 1) r2)) = w7 at *
  have Kw7 : Chg (w.heap.size + 1) (w.heap.size + 1 + 1) w6 w7 := by subst hW4; exact qCh
  have Xw7 : Ext w w7 := by subst hW4; exact qXt
  replace va0 := Kw7.cell (by omega) va0
  replace va1 := Kw7.cell (by omega) va1
  replace va2 := Kw7.cell (by omega) va2
  replace q0 : w7.cell? ⟨w.heap.size + 1, 0, none⟩ = some (.int .i64 b1) := by subst hW4; go_simp
  replace f_q0 : w7.frozen? ⟨w.heap.size + 1, 0, none⟩ = false := by subst hW4; go_simp
  replace q1 : w7.cell? ⟨w.heap.size + 1, 1, none⟩ = some (.slice (some ⟨g1, 0, none⟩) (s1.length - 1) r1) := by subst hW4; go_simp
  replace f_q1 : w7.frozen? ⟨w.heap.size + 1, 1, none⟩ = false := by subst hW4; go_simp
  replace q2 : w7.cell? ⟨w.heap.size + 1, 2, none⟩ = some (.slice (some ⟨g2, 0, none⟩) (t1.length - 1) r2) := by subst hW4; go_simp
  replace f_q2 : w7.frozen? ⟨w.heap.size + 1, 2, none⟩ = false := by subst hW4; go_simp
  replace y0 := Kw7.cell (by omega) y0
  replace f_y0 := Kw7.frzO (by omega) z_y f_y0
  replace y1 := Kw7.cell (by omega) y1
  replace f_y1 := Kw7.frzO (by omega) z_y f_y1
  replace y2 := Kw7.cell (by omega) y2
  replace f_y2 := Kw7.frzO (by omega) z_y f_y2
  replace I1 := I1.chgN Kw7 (by omega)
  replace I2 := I2.chgN Kw7 (by omega)
  clear Kw7
  have z_va : w.heap.size < w7.heap.size := qB va0
  have z_q : w.heap.size + 1 < w7.heap.size := qB q0
  have z_y : w1.heap.size < w7.heap.size := qB y0
  have s_w7 : w.heap.size ≤ w7.heap.size := Xw7.size
  clear hW4
  refine bodyPost_ret (v := .agg #[.int .i64 b1, .slice (some ⟨g1, 0, none⟩) (s1.length - 1) r1, .slice (some ⟨g2, 0, none⟩) (t1.length - 1) r2]) (by simp only [results, Try.results99]; go_simp) rfl ?_
  exact ⟨_, _, rfl, I1.lower (by omega), I2.lower (by omega), Xw7⟩

end Go.Proofs.Ytonnnjaooifpjaa

/- Walks: ValidView, FitsIn, BoundsOf. -/
namespace Go.Proofs.Ytonnnjaooifpjaa
open Go.RowKit
set_option linter.unusedVariables false
set_option maxRecDepth 100000


end Go.Proofs.Ytonnnjaooifpjaa

/- Walks: OffsetsOf and IsRow of the program and of the reference. -/
namespace Go.Proofs.Ytonnnjaooifpjaa
open Go.RowKit
set_option linter.unusedVariables false
set_option maxRecDepth 100000


def offA (b : Int) (s t : List Int) : List Int := if viewB b s t then offsL b s t else []
set_option maxHeartbeats 1600000 in
theorem implOffsetsOf_c (b1 : Int) (u1 v1 : Value) (s1 t1 : List Int) (w : World) (l1 m1 : Nat) (h1 : Ints w l1 u1 s1) (k1 : Ints w m1 v1 t1) :
    Calls Try.prog 39 #[.agg #[.int .i64 b1, u1, v1]] w (PInts w (offA b1 s1 t1)) := by
  obtain ⟨a1, cp1, rfl⟩ := h1.form
  obtain ⟨a2, cp2, rfl⟩ := k1.form
  cases ha : viewB b1 s1 t1
  · have hr : Hid (offA b1 s1 t1 = []) := Lib.hid (by unfold offA; rw [ha]; rfl)
    replace ha := Lib.hid ha
    go_enter Try.func39, Try.ntmps39
    go_wp2_with fail
    refine (isView_c b1 _ _ s1 t1 _ l1 m1 (h1.ext qXt) (k1.ext qXt)).mono ?_
    rintro e w1 ⟨rfl, xw1⟩
    have Lw1 : Ext w w1 := Ext.trans qXt xw1
    have Xw1 : Ext w w1 := Lw1
    have va0 : w1.cell? ⟨w.heap.size, 0, none⟩ = some (.int .i64 b1) := xw1.cell qCl
    have va1 : w1.cell? ⟨w.heap.size, 1, none⟩ = some (.slice a1 s1.length cp1) := xw1.cell qCl
    have va2 : w1.cell? ⟨w.heap.size, 2, none⟩ = some (.slice a2 t1.length cp2) := xw1.cell qCl
    have z_va : w.heap.size < w1.heap.size := qB va0
    have s_w1 : w.heap.size ≤ w1.heap.size := Xw1.size
    clear xw1
    rw [ha.out]
    go_wp2_with fail
    go_ret
    rw [hr.out]
    exact PInts.nilv (Xw1.trans qXt)
  · have hr : Hid (offA b1 s1 t1 = offsL b1 s1 t1) := Lib.hid (by unfold offA; rw [ha]; rfl)
    obtain ⟨j1, j2, -⟩ := viewB_in ha
    have hin := Lib.hid (shapeB_in j1)
    have hj2 := Lib.hid j2
    clear j1 j2
    replace ha := Lib.hid ha
    go_enter Try.func39, Try.ntmps39
    go_wp2_with fail
    refine (isView_c b1 _ _ s1 t1 _ l1 m1 (h1.ext qXt) (k1.ext qXt)).mono ?_
    rintro e w1 ⟨rfl, xw1⟩
    have Lw1 : Ext w w1 := Ext.trans qXt xw1
    have Xw1 : Ext w w1 := Lw1
    have va0 : w1.cell? ⟨w.heap.size, 0, none⟩ = some (.int .i64 b1) := xw1.cell qCl
    have va1 : w1.cell? ⟨w.heap.size, 1, none⟩ = some (.slice a1 s1.length cp1) := xw1.cell qCl
    have va2 : w1.cell? ⟨w.heap.size, 2, none⟩ = some (.slice a2 t1.length cp2) := xw1.cell qCl
    have z_va : w.heap.size < w1.heap.size := qB va0
    have s_w1 : w.heap.size ≤ w1.heap.size := Xw1.size
    clear xw1
    rw [ha.out]
    go_wp2_with fail
    refine (offsetsOf_c b1 _ _ s1 t1 _ l1 m1 (h1.ext (Xw1.trans qXt)) (k1.ext (Xw1.trans qXt)) (by have := hj2.out; omega) hin.out.2.2.2.2 (by have := hin.out; omega)).mono ?_
    rintro e w2 ⟨r, rfl, i, o, xw2⟩
    have Lw2 : Ext w1 w2 := Ext.trans qXt xw2
    have Xw2 : Ext w w2 := Xw1.trans Lw2
    replace va0 := Lw2.cell va0
    replace va1 := Lw2.cell va1
    replace va2 := Lw2.cell va2
    have z_va : w.heap.size < w2.heap.size := qB va0
    have s_w2 : w.heap.size ≤ w2.heap.size := Xw2.size
    clear xw2
    go_wp2_with fail
    go_ret
    rw [hr.out]
    exact PInts.of o i (by first | omega | (simp; omega)) (Xw2.trans qXt)

end Go.Proofs.Ytonnnjaooifpjaa

/- Walks: rowStrides of the program. -/
namespace Go.Proofs.Ytonnnjaooifpjaa
open Go.RowKit
set_option linter.unusedVariables false
set_option maxRecDepth 100000

end Go.Proofs.Ytonnnjaooifpjaa

/- Helpers of the laws: equal lists, equal views, a number in a list. -/
namespace Go.Proofs.Ytonnnjaooifpjaa
open Go.RowKit
set_option linter.unusedVariables false
set_option maxRecDepth 100000



set_option maxHeartbeats 1600000 in
theorem leqInts_c (xs : List Int) (a b : Value) (w : World) (la lb : Nat) (ha : Ints w la a xs) (hb : Ints w lb b xs) :
    Calls Try.prog 27 #[a, b] w fun e w' => e = .returned (.bool true) ∧ Ext w w' := by
  obtain ⟨a1, cap1, rfl, _, _, ⟨hlen, _⟩, hc1⟩ := ha
  obtain ⟨a2, cap2, rfl, _, _, ⟨hlen2, _⟩, hc2⟩ := hb
  go_enter Try.func27, Try.ntmps27
  go_wp2_with fail
  go_loopw [5] (fun i wr => ∃ k m : Nat, k ≤ xs.length ∧ i = .int .i64 k ∧ wr = w.drewN m) (fun i _ => xs.length - (intOf i).toNat)
  case atStart => exact ⟨0, 0, Nat.zero_le _, rfl, rfl⟩
  case round =>
    obtain ⟨k, m, hk, rfl, rfl⟩ := hrel
    by_cases hlt : k < xs.length
    · obtain ⟨b1, off1, rfl, _, hcell1, _⟩ := hc1 k hlt
      obtain ⟨b2, off2, rfl, _, hcell2, _⟩ := hc2 k hlt
      have hk4 : (k : Int) < xs.length := by omega
      clear hc1 hc2
      generalize xs.getD k 0 = x at *
      go_wp2_with fail
      go_quiet (fail)
      go_wp2_with fail
      go_roundw
      case rel => exact ⟨k+1, _, by omega, by go_num, rfl⟩
      case measure => simp [intOf]; omega
    · obtain rfl : k = xs.length := by omega
      go_wp2_with fail
      go_ret
      exact ⟨rfl, qXo⟩

set_option maxHeartbeats 1600000 in
theorem isIn_c (xs : List Int) (n : Int) (a : Value) (w : World) (la : Nat) (ha : Ints w la a xs) :
    Calls Try.prog 124 #[a, .int .i64 n] w fun e w' => e = .returned (.bool (decide (n ∈ xs))) ∧ Ext w w' := by
  obtain ⟨a1, cap1, rfl, _, _, ⟨hlen, _⟩, hc1⟩ := ha
  go_enter Try.func124, Try.ntmps124
  go_wp2_with fail
  go_loopw [5] (fun i wr => ∃ k m : Nat, k ≤ xs.length ∧ i = .int .i64 k ∧ wr = w.drewN m ∧ Hid (n ∉ xs.take k)) (fun i _ => xs.length - (intOf i).toNat)
  case atStart => exact ⟨0, 0, Nat.zero_le _, rfl, rfl, Lib.hid (by simp)⟩
  case round =>
    obtain ⟨k, m, hk, rfl, rfl, ht⟩ := hrel
    by_cases hlt : k < xs.length
    · obtain ⟨b1, off1, rfl, _, hcell1, _⟩ := hc1 k hlt
      have hk4 : (k : Int) < xs.length := by omega
      have hg := Lib.hid (show xs.getD k 0 ∈ xs by simp [hlt])
      have hs := Lib.hid (show xs.take (k+1) = xs.take k ++ [xs.getD k 0] by rw [List.take_succ_eq_append_getElem hlt]; simp [hlt])
      clear hc1
      generalize xs.getD k 0 = x at *
      by_cases hx : x = n
      · have hq : (x == n) = true := by simpa using hx
        have hn := Lib.hid (show decide (n ∈ xs) = true by rw [← hx]; simpa using hg.out)
        replace hx := Lib.hid hx
        go_wp2_with fail
        go_ret
        exact ⟨by rw [hn.out] <;> rfl, qXo⟩
      · have hq : (x == n) = false := by simpa using hx
        have hn := Lib.hid (show n ∉ xs.take (k+1) by rw [hs.out]; simp only [List.mem_append, List.mem_singleton, not_or]; exact ⟨ht.out, fun h => hx h.symm⟩)
        replace hx := Lib.hid hx
        go_wp2_with fail
        go_roundw
        case rel => exact ⟨k+1, _, by omega, by go_num, rfl, hn⟩
        case measure => simp [intOf]; omega
    · obtain rfl : k = xs.length := by omega
      have hn := Lib.hid (show decide (n ∈ xs) = false by have := ht.out; rw [List.take_length] at this; simpa using this)
      go_wp2_with fail
      go_ret
      exact ⟨by rw [hn.out] <;> rfl, qXo⟩

set_option maxHeartbeats 1600000 in
theorem leqView_c (b1 : Int) (u1 v1 u2 v2 : Value) (s1 t1 : List Int) (w : World) (l1 m1 l2 m2 : Nat) (h1 : Ints w l1 u1 s1) (k1 : Ints w m1 v1 t1) (h2 : Ints w l2 u2 s1) (k2 : Ints w m2 v2 t1) :
    Calls Try.prog 33 #[.agg #[.int .i64 b1, u1, v1], .agg #[.int .i64 b1, u2, v2]] w fun e w' => e = .returned (.bool true) ∧ Ext w w' := by
  obtain ⟨a1, cp1, rfl⟩ := h1.form
  obtain ⟨a2, cp2, rfl⟩ := k1.form
  obtain ⟨a3, cp3, rfl⟩ := h2.form
  obtain ⟨a4, cp4, rfl⟩ := k2.form
  go_enter Try.func33, Try.ntmps33
  go_wp2_with fail
  refine (leqInts_c s1 _ _ _ l1 l2 (h1.ext qXt) (h2.ext qXt)).mono ?_
  rintro e w1 ⟨rfl, xw1⟩
  have Lw1 : Ext w w1 := Ext.trans qXt xw1
  have Xw1 : Ext w w1 := Lw1
  have va0 : w1.cell? ⟨w.heap.size, 0, none⟩ = some (.int .i64 b1) := xw1.cell qCl
  have va1 : w1.cell? ⟨w.heap.size, 1, none⟩ = some (.slice a1 s1.length cp1) := xw1.cell qCl
  have va2 : w1.cell? ⟨w.heap.size, 2, none⟩ = some (.slice a2 t1.length cp2) := xw1.cell qCl
  have vb0 : w1.cell? ⟨w.heap.size + 1, 0, none⟩ = some (.int .i64 b1) := xw1.cell qCl
  have vb1 : w1.cell? ⟨w.heap.size + 1, 1, none⟩ = some (.slice a3 s1.length cp3) := xw1.cell qCl
  have vb2 : w1.cell? ⟨w.heap.size + 1, 2, none⟩ = some (.slice a4 t1.length cp4) := xw1.cell qCl
  have z_va : w.heap.size < w1.heap.size := qB va0
  have z_vb : w.heap.size + 1 < w1.heap.size := qB vb0
  have s_w1 : w.heap.size ≤ w1.heap.size := Xw1.size
  clear xw1
  go_wp2_with fail
  refine (leqInts_c t1 _ _ _ m1 m2 (k1.ext (Xw1.trans qXt)) (k2.ext (Xw1.trans qXt))).mono ?_
  rintro e w2 ⟨rfl, xw2⟩
  have Lw2 : Ext w1 w2 := Ext.trans qXt xw2
  have Xw2 : Ext w w2 := Xw1.trans Lw2
  replace va0 := Lw2.cell va0
  replace va1 := Lw2.cell va1
  replace va2 := Lw2.cell va2
  replace vb0 := Lw2.cell vb0
  replace vb1 := Lw2.cell vb1
  replace vb2 := Lw2.cell vb2
  have z_va : w.heap.size < w2.heap.size := qB va0
  have z_vb : w.heap.size + 1 < w2.heap.size := qB vb0
  have s_w2 : w.heap.size ≤ w2.heap.size := Xw2.size
  clear xw2
  go_wp2_with fail
  go_ret
  exact ⟨rfl, Xw2.trans qXt⟩

end Go.Proofs.Ytonnnjaooifpjaa

/- Walks: helpers of the laws. -/
namespace Go.Proofs.Ytonnnjaooifpjaa
open Go.RowKit
set_option linter.unusedVariables false
set_option maxRecDepth 100000

end Go.Proofs.Ytonnnjaooifpjaa

/- Walks: LoadView of the program and of the reference. -/
namespace Go.Proofs.Ytonnnjaooifpjaa
open Go.RowKit
set_option linter.unusedVariables false
set_option maxRecDepth 100000


theorem PInts.no {w w' : World} (h : Ext w w') : PInts w [] (.returned (.slice none 0 0)) w' :=
  ⟨_, rfl, Ints.nil _ _ _ _ (by simp) (fun _ => rfl), .inl ⟨rfl, none, 0, rfl, by simp, fun _ => rfl⟩, h⟩

end Go.Proofs.Ytonnnjaooifpjaa

/- Walks: indices, ranks, rows, sums. -/
namespace Go.Proofs.Ytonnnjaooifpjaa
open Go.RowKit
set_option linter.unusedVariables false
set_option maxRecDepth 100000


theorem vw {b : Int} {s t : List Int} (h : viewB b s t = true) : s.length ≤ t.length ∧ (0 < countL s → ∀ e ∈ s, 1 ≤ e) ∧ countL s ≤ 1000000 ∧ Small s := by
  obtain ⟨h1, h2, h3, h4, h5⟩ := viewB_in h
  have h6 := shapeB_in h1
  exact ⟨by omega, h6.2.2.2.2, by omega, Small.of h1⟩
theorem sh {s : List Int} (h : shapeB s = true) : Small s ∧ (0 < countL s → ∀ e ∈ s, 1 ≤ e) ∧ countL s ≤ 1000000 := by
  have h6 := shapeB_in h
  exact ⟨Small.of h, h6.2.2.2.2, by omega⟩
/-- the first k numbers are within the extents -/
def OkTo (s r : List Int) (k : Nat) : Prop := ∀ j, j < k → 0 ≤ r.getD j 0 ∧ r.getD j 0 < s.getD j 0
theorem OkTo.zero (s r : List Int) : OkTo s r 0 := fun j h => absurd h (by omega)
theorem OkTo.succ {s r : List Int} {k : Nat} (h : OkTo s r k) {x e : Int} (hx : r.getD k 0 = x) (he : s.getD k 0 = e) (h1 : 0 ≤ x) (h2 : x < e) : OkTo s r (k+1) := fun j hj => by
  by_cases hjk : j = k
  · subst hjk; rw [hx, he]; exact ⟨h1, h2⟩
  · exact h j (by omega)
theorem ixOf_ok : ∀ (s r : List Int), r.length = s.length → (IxOf s r ↔ OkTo s r r.length)
  | [], [], _ => ⟨fun _ => OkTo.zero _ _, fun _ => trivial⟩
  | [], x :: r, h => by simp at h
  | e :: s, [], h => by simp at h
  | e :: s, x :: r, h => by
    have ih := ixOf_ok s r (by simpa using h)
    constructor
    · rintro ⟨h1, h2⟩ j hj
      cases j with
      | zero => simpa using h1
      | succ j => have := (ih.1 h2) j (by simpa using hj); simpa using this
    · intro hk
      refine ⟨by simpa using hk 0 (by simp), ih.2 fun j hj => by have := hk (j+1) (by simpa using hj); simpa using this⟩
theorem ixB_ok {s r : List Int} (hl : r.length = s.length) (h : OkTo s r r.length) : ixB s r = true := (ixB_iff s r).2 ((ixOf_ok s r hl).2 h)
theorem ixB_no {s r : List Int} {k : Nat} (hk : k < r.length) {x e : Int} (hx : r.getD k 0 = x) (he : s.getD k 0 = e) (h : x < 0 ∨ e ≤ x) : ixB s r = false := by
  cases hb : ixB s r with
  | false => rfl
  | true =>
    have h1 := (ixB_iff s r).1 hb
    have h2 := (ixOf_ok s r h1.len).1 h1 k hk
    rw [hx, he] at h2; omega
theorem ixB_len {s r : List Int} (h : r.length ≠ s.length) : ixB s r = false := by unfold ixB; simp [h]

set_option maxHeartbeats 1600000 in
theorem isIndex_c (s r : List Int) (v1 v2 : Value) (w : World) (l1 l2 : Nat) (h1 : Ints w l1 v1 s) (h2 : Ints w l2 v2 r) :
    Calls Try.prog 121 #[v1, v2] w (fun e w' => e = .returned (.bool (ixB s r)) ∧ w = w') := by
  have n1 := h1.len
  have n2 := h2.len
  obtain ⟨p1, c1, rfl⟩ := h1.form
  obtain ⟨p2, c2, rfl⟩ := h2.form
  go_enter Try.func121, Try.ntmps121
  by_cases hc1 : (r.length : Int) = (s.length : Int)
  · have hc1e : ((r.length : Int) == (s.length : Int)) = true := by simpa using hc1
    have hc1n : ((r.length : Int) != (s.length : Int)) = false := by simpa using hc1
    replace hc1 := Lib.hid hc1
    go_wp2_with fail
    go_loop [14] (fun i => ∃ (k : Nat), k ≤ r.length ∧ i = .int .i64 k ∧ Hid (OkTo s r k)) (fun i => r.length - (intOf i).toNat)
    case atStart => exact ⟨0, Nat.zero_le _, rfl, Lib.hid (OkTo.zero _ _)⟩
    case round =>
      obtain ⟨k, hk, rfl, hok⟩ := hrel
      by_cases hlt : k < r.length
      · have hkI : (k : Int) < r.length := by omega
        have hks : k < s.length := by have := hc1.out; omega
        obtain ⟨bl2, ol3, rfl, e40⟩ := h2.at k (by omega)
        obtain ⟨v5, hv5⟩ : ∃ v, r.getD k 0 = v := ⟨_, rfl⟩
        rw [hv5] at e40
        replace hv5 := Lib.hid hv5
        have y_e4 : bl2 < w.heap.size := qB e40
        have z_e4 := y_e4
        by_cases hc6 : (v5 : Int) < (0 : Int)
        · go_wp2_with fail
          go_ret
          exact ⟨by rw [show ixB s r = false from ixB_no (by omega) hv5.out rfl (by omega)] <;> rfl, rfl⟩
        · obtain ⟨bl7, ol8, rfl, e90⟩ := h1.at k (by omega)
          obtain ⟨v10, hv10⟩ : ∃ v, s.getD k 0 = v := ⟨_, rfl⟩
          rw [hv10] at e90
          replace hv10 := Lib.hid hv10
          have y_e9 : bl7 < w.heap.size := qB e90
          have z_e9 := y_e9
          by_cases hc11 : (v10 : Int) ≤ (v5 : Int)
          · go_wp2_with fail
            go_ret
            exact ⟨by rw [show ixB s r = false from ixB_no (by omega) hv5.out hv10.out (by omega)] <;> rfl, rfl⟩
          · go_wp2_with fail
            go_round
            case rel => exact ⟨k + 1, by omega, by go_num, Lib.hid (hok.out.succ hv5.out hv10.out (by omega) (by omega))⟩
            case measure => simp [intOf]; omega
      · have hkI : ¬ (k : Int) < r.length := by omega
        go_wp2_with fail
        go_ret
        exact ⟨by rw [show ixB s r = true from ixB_ok (by have := hc1.out; omega) (by have := hok.out; rwa [show k = r.length by omega] at this)] <;> rfl, rfl⟩
  · have hc1e : ((r.length : Int) == (s.length : Int)) = false := by simpa using hc1
    have hc1n : ((r.length : Int) != (s.length : Int)) = true := by simpa using hc1
    replace hc1 := Lib.hid hc1
    go_wp2_with fail
    go_ret
    exact ⟨by rw [show ixB s r = false from ixB_len (by have := hc1.out; omega)] <;> rfl, rfl⟩

end Go.Proofs.Ytonnnjaooifpjaa

/- Walks: ranks, indices, rows, sums. -/
namespace Go.Proofs.Ytonnnjaooifpjaa
open Go.RowKit
set_option linter.unusedVariables false
set_option maxRecDepth 100000


def idxA (s : List Int) (k : Int) : List Int := if shapeB s && (decide (0 ≤ k) && decide (k < countL s)) then (unrL s k).1 else []
def okA (b : Int) (s t r : List Int) : Bool := viewB b s t && ixB s r
def atA (b : Int) (s t r : List Int) : Int := if okA b s t r then dotL b r t else 0
theorem ix_len {s r : List Int} (h : ixB s r = true) : r.length = s.length := ((ixB_iff s r).1 h).len
set_option maxHeartbeats 1600000 in
theorem implIndexAt_c (s : List Int) (v1 : Value) (k : Int) (w : World) (l1 : Nat) (h1 : Ints w l1 v1 s) :
    Calls Try.prog 60 #[v1, .int .i64 k] w (PInts w (idxA s k)) := by
  obtain ⟨p0, c0, rfl⟩ := h1.form
  go_enter Try.func60, Try.ntmps60
  go_wp2_with fail
  refine (isShape_c s (.slice p0 s.length c0) _ _ (h1.ext qXt)).mono ?_
  rintro e w' ⟨rfl, rfl⟩
  cases hB1 : shapeB s
  · replace hB1 := Lib.hid hB1
    go_wp2_with fail
    go_ret
    rw [show idxA s k = [] by unfold idxA; rw [hB1.out]; rfl]
    exact PInts.no qXt
  · replace hB1 := Lib.hid hB1
    by_cases hc2 : (k : Int) < (0 : Int)
    · go_wp2_with fail
      go_ret
      rw [show idxA s k = [] by unfold idxA; rw [hB1.out]; rw [if_neg (by simp only [Bool.true_and, Bool.and_eq_true, decide_eq_true_eq]; omega)]]
      exact PInts.no qXt
    · go_wp2_with fail
      refine (countOf_c s (.slice p0 s.length c0) _ _ (h1.ext qXt)).mono ?_
      rintro e w' ⟨rfl, rfl⟩
      by_cases hc3 : (countL s : Int) ≤ (k : Int)
      · go_wp2_with fail
        go_ret
        rw [show idxA s k = [] by unfold idxA; rw [hB1.out]; rw [if_neg (by simp only [Bool.true_and, Bool.and_eq_true, decide_eq_true_eq]; omega)]]
        exact PInts.no qXt
      · go_wp2_with fail
        refine (indexAt_c s (.slice p0 s.length c0) k _ _ (h1.ext qXt) (by omega) (by have := (sh hB1.out).2.2; omega) ((sh hB1.out).2.1 (by omega))).mono ?_
        rintro e w1 ⟨fv4, rfl, i5, i5z, xw1⟩
        have Lw1 : Ext w w1 := Ext.trans qXt xw1
        have Xw1 : Ext w w1 := Lw1
        have s_w1 : w.heap.size ≤ w1.heap.size := Xw1.size
        clear xw1
        obtain ⟨afv4, cfv4, rfl⟩ := i5.form
        go_wp2_with fail
        go_ret
        rw [show idxA s k = (unrL s k).1 by unfold idxA; rw [hB1.out]; rw [if_pos (by simp only [Bool.true_and, Bool.and_eq_true, decide_eq_true_eq]; omega)]]
        exact ⟨_, rfl, i5.lower (by omega), i5z.lower (by omega), (Xw1.trans qXt)⟩

set_option maxHeartbeats 1600000 in
theorem implOffsetAt_c (b1 : Int) (u1 v1 : Value) (s1 t1 : List Int) (v3 : Value) (r : List Int) (w : World) (l1 m1 : Nat) (h1 : Ints w l1 u1 s1) (k1 : Ints w m1 v1 t1) (l3 : Nat) (h3 : Ints w l3 v3 r) :
    Calls Try.prog 61 #[.agg #[.int .i64 b1, u1, v1], v3] w (fun e w' => e = .returned (.tuple #[.int .i64 (atA b1 s1 t1 r), .bool (okA b1 s1 t1 r)]) ∧ Ext w w') := by
  obtain ⟨p0, c0, rfl⟩ := h1.form
  obtain ⟨p1, c1, rfl⟩ := k1.form
  obtain ⟨p2, c2, rfl⟩ := h3.form
  go_enter Try.func61, Try.ntmps61
  go_wp2_with fail
  refine (isView_c b1 (.slice p0 s1.length c0) (.slice p1 t1.length c1) s1 t1 _ _ _ (h1.ext qXt) (k1.ext qXt)).mono ?_
  rintro e w1 ⟨rfl, xw1⟩
  have Lw1 : Ext w w1 := Ext.trans qXt xw1
  have Xw1 : Ext w w1 := Lw1
  have b10 : w1.cell? ⟨w.heap.size, 0, none⟩ = some (.int .i64 b1) := xw1.cell qCl
  have b11 : w1.cell? ⟨w.heap.size, 1, none⟩ = some (.slice p0 s1.length c0) := xw1.cell qCl
  have b12 : w1.cell? ⟨w.heap.size, 2, none⟩ = some (.slice p1 t1.length c1) := xw1.cell qCl
  have z_b1 : w.heap.size < w1.heap.size := qB b10
  have s_w1 : w.heap.size ≤ w1.heap.size := Xw1.size
  clear xw1
  cases hB2 : viewB b1 s1 t1
  · replace hB2 := Lib.hid hB2
    go_wp2_with fail
    go_ret2
    exact ⟨by rw [show okA b1 s1 t1 r = false by unfold okA; rw [hB2.out] <;> rfl, show atA b1 s1 t1 r = 0 by unfold atA okA; rw [hB2.out] <;> rfl] <;> rfl, (Xw1.trans qXt)⟩
  · replace hB2 := Lib.hid hB2
    go_wp2_with fail
    refine (isIndex_c s1 r (.slice p0 s1.length c0) (.slice p2 r.length c2) _ _ _ (h1.ext (Xw1.trans qXt)) (h3.ext (Xw1.trans qXt))).mono ?_
    rintro e w' ⟨rfl, rfl⟩
    cases hB3 : ixB s1 r
    · replace hB3 := Lib.hid hB3
      go_wp2_with fail
      go_ret2
      exact ⟨by rw [show okA b1 s1 t1 r = false by unfold okA; rw [hB2.out, hB3.out] <;> rfl, show atA b1 s1 t1 r = 0 by unfold atA okA; rw [hB2.out, hB3.out] <;> rfl] <;> rfl, (Xw1.trans qXt)⟩
    · replace hB3 := Lib.hid hB3
      go_wp2_with fail
      refine (offsetAt_c b1 (.slice p0 s1.length c0) (.slice p1 t1.length c1) (.slice p2 r.length c2) t1 r _ _ _ (k1.ext (Xw1.trans qXt)) (h3.ext (Xw1.trans qXt)) (by have h7 := ix_len hB3.out; have h8 := (vw hB2.out).1; omega)).mono ?_
      rintro e w2 ⟨rfl, xw2⟩
      have Lw2 : Ext w1 w2 := Ext.trans qXt xw2
      have Xw2 : Ext w w2 := Xw1.trans Lw2
      replace b10 := Lw2.cell b10
      replace b11 := Lw2.cell b11
      replace b12 := Lw2.cell b12
      have z_b1 : w.heap.size < w2.heap.size := qB b10
      have s_w2 : w.heap.size ≤ w2.heap.size := Xw2.size
      clear xw2
      go_wp2_with fail
      go_ret2
      exact ⟨by rw [show okA b1 s1 t1 r = true by unfold okA; rw [hB2.out, hB3.out] <;> rfl, show atA b1 s1 t1 r = dotL b1 r t1 by unfold atA okA; rw [hB2.out, hB3.out] <;> rfl] <;> rfl, (Xw2.trans qXt)⟩

end Go.Proofs.Ytonnnjaooifpjaa

/- Plain laws: views with their dimensions in another order. -/
namespace Go.Proofs.Ytonnnjaooifpjaa
open Go.RowKit
set_option linter.unusedVariables false
set_option maxRecDepth 100000

end Go.Proofs.Ytonnnjaooifpjaa

/- Plain laws: views without a dimension. -/
namespace Go.Proofs.Ytonnnjaooifpjaa
open Go.RowKit
set_option linter.unusedVariables false
set_option maxRecDepth 100000

theorem delL_mem {xs : List Int} {d : Nat} {x : Int} (h : x ∈ delL xs d) : x ∈ xs := by
  unfold delL at h
  rcases List.mem_append.1 h with h | h
  · exact List.mem_of_mem_take h
  · exact List.mem_of_mem_drop h
theorem delL_zero (x : Int) (xs : List Int) : delL (x :: xs) 0 = xs := by simp [delL]
theorem delL_succ (x : Int) (xs : List Int) (d : Nat) : delL (x :: xs) (d + 1) = x :: delL xs d := by simp [delL]
theorem del_small {s : List Int} (hs : Small s) (d : Nat) (hd : d < s.length) : Small (delL s d) :=
  ⟨by rw [delL_len s d hd]; have := hs.1; omega, fun e he => hs.2 e (delL_mem he)⟩
theorem del_prod : ∀ (s : List Int) (d : Nat), d < s.length → prodL s = s.getD d 0 * prodL (delL s d)
  | [], d, h => by simp at h
  | x :: s, 0, _ => by rw [delL_zero, prodL_cons]; simp
  | x :: s, d+1, h => by
    rw [delL_succ, prodL_cons, prodL_cons, del_prod s d (by simpa using h)]
    simp only [List.getD_cons_succ]
    rw [← Int.mul_assoc, ← Int.mul_assoc, Int.mul_comm x]
end Go.Proofs.Ytonnnjaooifpjaa

/- Walks: PickDim of the program. -/
namespace Go.Proofs.Ytonnnjaooifpjaa
open Go.RowKit
set_option linter.unusedVariables false
set_option maxRecDepth 100000


def PVX (w : World) (x : VBool) (e : Ending) (w' : World) : Prop := PVWB w x.1 x.2.1 x.2.2.1 x.2.2.2 e w'
theorem pvx_eq {w w0 : World} {x : VBool} {B : Int} {S T : List Int} {o : Bool} {f : Nat} {args : Array Value} (he : x = (B, S, T, o)) (h : Calls Try.prog f args w (PVX w0 x)) : Calls Try.prog f args w (PVWB w0 B S T o) := by subst he; exact h
theorem dim_in {b : Int} {s t : List Int} {d : Int} (h : dimB b s t d = true) : viewB b s t = true ∧ 0 ≤ d ∧ d < s.length := by
  unfold dimB inB at h
  simp only [Bool.and_eq_true, decide_eq_true_eq] at h
  exact ⟨h.1, by omega, by omega⟩
end Go.Proofs.Ytonnnjaooifpjaa

/- Helpers of walks: appends to a literal without room, whatever is appended. -/
namespace Go.Proofs.Ytonnnjaooifpjaa
open Go.RowKit
set_option linter.unusedVariables false
section
variable {w : World} {src : Value} {ys : List Int} {lo B l : Nat}
theorem run_app0O (ty : TypeId) (O : OwnI w B (.slice (some ⟨l, 0, none⟩) 0 0) []) (hB : B ≤ w.heap.size) (hs : Ints w lo src ys) :
    ∃ g r w', (Builtin.append_ #[23, 23] ty #[.slice (some ⟨l, 0, none⟩) 0 0, src]).run Try.prog w = .ok (.slice (some ⟨g, 0, none⟩) ys.length r) w' ∧ OwnI w' B (.slice (some ⟨g, 0, none⟩) ys.length r) ys ∧ Ext w w' ∧ (g = l ∨ w.heap.size ≤ g) ∧ g < w'.heap.size := by
  obtain ⟨v', w', hr, h1, h2, h3⟩ := run_app0 ⟨l, 0, none⟩ ty hs
  by_cases he : ys = []
  · subst he
    have hs' := hs
    obtain ⟨i0, hi, hz0, hz1, hz2⟩ := info_parts infoInt
    obtain ⟨a, cap, rfl, h1, h2, ⟨h3', h3⟩, h4⟩ := hs
    refine ⟨l, 0, w, ?_, O, Ext.refl _, .inl rfl, (own_lt O rfl).2⟩
    cases a with
    | none => simp [Builtin.append_, run_underlying Try.underlying23, sizeOf, typeInfo, hi, Builtin.lenOf, Builtin.firstCells, storeCells]
    | some x => simp [Builtin.append_, run_underlying Try.underlying23, sizeOf, typeInfo, hi, Builtin.lenOf, Builtin.firstCells, storeCells, loadCells, loadCellsFrom]
  · have O' := (h1.ofNe he)
    obtain ⟨g, r, rfl, hg, hg'⟩ := O'.row he
    exact ⟨g, r, w', hr, O'.lower hB, h2, .inr hg, hg'⟩

theorem step_app0O {ops : Array Oper} {o : Oper} {a : Act} {K : Act → World → Prop} {Q : Exit → Act → World → Prop} {F : Prop} (hgd : o.guard = none) (s x : Operand)
    (ho : o.op = .call { callee := .builtin .append, args := #[s, x], argTypes := #[23, 23] })
    (hs : a.eval s = .slice (some ⟨l, 0, none⟩) 0 0) (hx : a.eval x = src) (O : OwnI w B (.slice (some ⟨l, 0, none⟩) 0 0) []) (hB : B ≤ w.heap.size) (hsrc : Ints w lo src ys)
    (hK : ∀ g r w', OwnI w' B (.slice (some ⟨g, 0, none⟩) ys.length r) ys → Ext w w' → (g = l ∨ w.heap.size ≤ g) → g < w'.heap.size → K (a.put o.dst (.slice (some ⟨g, 0, none⟩) ys.length r)) w') :
    if Region.wanted o (yielded ops a.tmps) = true then Oper.wp Try.prog o a w K Q else F := by
  have hw : Region.wanted o (yielded ops a.tmps) = true := by simp [Region.wanted, hgd]
  rw [if_pos hw]
  obtain ⟨g, r, w', hr, h1, h2, h3, h4⟩ := run_app0O o.type O hB hsrc
  unfold Oper.wp execOp
  simp only [ho, resolve, invoke, builtin, Sem.run_bind, Sem.run_pure, Result.andThen_ok, List.map_toArray, List.map_cons, List.map_nil, hs, hx, hr]
  exact hK g r w' h1 h2 h3 h4
theorem wpList_app0O {ops : Array Oper} {rest : List Oper} {o : Oper} {a : Act} {Q : Exit → Act → World → Prop} (hgd : o.guard = none) (s x : Operand)
    (ho : o.op = .call { callee := .builtin .append, args := #[s, x], argTypes := #[23, 23] })
    (hs : a.eval s = .slice (some ⟨l, 0, none⟩) 0 0) (hx : a.eval x = src) (O : OwnI w B (.slice (some ⟨l, 0, none⟩) 0 0) []) (hB : B ≤ w.heap.size) (hsrc : Ints w lo src ys)
    (hK : ∀ g r w', OwnI w' B (.slice (some ⟨g, 0, none⟩) ys.length r) ys → Ext w w' → (g = l ∨ w.heap.size ≤ g) → g < w'.heap.size → wpList Try.prog ops Q rest (a.put o.dst (.slice (some ⟨g, 0, none⟩) ys.length r)) w') : wpList Try.prog ops Q (o :: rest) a w := by
  refine wpList_plain hgd fun K hK' => ?_
  obtain ⟨g, r, w', hr, h1, h2, h3, h4⟩ := run_app0O o.type O hB hsrc
  unfold Oper.wp execOp
  simp only [ho, resolve, invoke, builtin, Sem.run_bind, Sem.run_pure, Result.andThen_ok, List.map_toArray, List.map_cons, List.map_nil, hs, hx, hr]
  exact hK' _ _ (hK g r w' h1 h2 h3 h4)
end
/-- a call hands back a row of its own -/
def PIntsO (w : World) (xs : List Int) (e : Ending) (w' : World) : Prop := ∃ g r, e = .returned (.slice (some ⟨g, 0, none⟩) xs.length r) ∧ OwnI w' w.heap.size (.slice (some ⟨g, 0, none⟩) xs.length r) xs ∧ w.heap.size ≤ g ∧ g < w'.heap.size ∧ Ext w w'
end Go.Proofs.Ytonnnjaooifpjaa

/- Walks: copies of views that are rows. -/
namespace Go.Proofs.Ytonnnjaooifpjaa
open Go.RowKit
set_option linter.unusedVariables false
set_option maxRecDepth 100000

def PViewO (w : World) (b : Int) (s t : List Int) (e : Ending) (w' : World) : Prop := ∃ g1 g2 r1 r2, e = .returned (.agg #[.int .i64 b, .slice (some ⟨g1, 0, none⟩) s.length r1, .slice (some ⟨g2, 0, none⟩) t.length r2]) ∧ OwnI w' w.heap.size (.slice (some ⟨g1, 0, none⟩) s.length r1) s ∧ OwnI w' w.heap.size (.slice (some ⟨g2, 0, none⟩) t.length r2) t ∧ w.heap.size ≤ g1 ∧ g1 < w'.heap.size ∧ w.heap.size ≤ g2 ∧ g2 < w'.heap.size ∧ g1 ≠ g2 ∧ Ext w w'
set_option maxHeartbeats 1600000 in
theorem copyViewO_c (b1 : Int) (u1 v1 : Value) (s1 t1 : List Int) (w : World) (l1 m1 : Nat) (h1 : Ints w l1 u1 s1) (k1 : Ints w m1 v1 t1) :
  Calls Try.prog 94 #[.agg #[.int .i64 b1, u1, v1]] w (PViewO w b1 s1 t1) := by
 obtain ⟨p0, c0, rfl⟩ := h1.form
 obtain ⟨p1, c1, rfl⟩ := k1.form
 go_enter Try.func94, Try.ntmps94
 go_wp2_with fail
 generalize hW1 : (w.alloc (.cells #[.int .i64 b1, .slice p0 s1.length c0, .slice p1 t1.length c1] 25)).alloc (.cells #[.int .i64 0, .slice none 0 0, .slice none 0 0] 25) = w1 at *
 have Lw1 : Ext w w1 := by subst hW1; exact qXt
 have Xw1 : Ext w w1 := by subst hW1; exact Lw1
 have b10 : w1.cell? ⟨w.heap.size, 0, none⟩ = some (.int .i64 b1) := by subst hW1; exact qCl
 have b11 : w1.cell? ⟨w.heap.size, 1, none⟩ = some (.slice p0 s1.length c0) := by subst hW1; exact qCl
 have b12 : w1.cell? ⟨w.heap.size, 2, none⟩ = some (.slice p1 t1.length c1) := by subst hW1; exact qCl
 have b20 : w1.cell? ⟨w.heap.size + 1, 0, none⟩ = some (.int .i64 0) := by subst hW1; exact qCl
 have b21 : w1.cell? ⟨w.heap.size + 1, 1, none⟩ = some (.slice none 0 0) := by subst hW1; exact qCl
 have b22 : w1.cell? ⟨w.heap.size + 1, 2, none⟩ = some (.slice none 0 0) := by subst hW1; exact qCl
 have f_b20 : w1.frozen? ⟨w.heap.size + 1, 0, none⟩ = false := by subst hW1; exact qFz
 have f_b21 : w1.frozen? ⟨w.heap.size + 1, 1, none⟩ = false := by subst hW1; exact qFz
 have f_b22 : w1.frozen? ⟨w.heap.size + 1, 2, none⟩ = false := by subst hW1; exact qFz
 have z_b1 : w.heap.size < w1.heap.size := qB b10
 have z_b2 : w.heap.size + 1 < w1.heap.size := qB b20
 have s_w1 : w.heap.size ≤ w1.heap.size := Xw1.size
 clear hW1
 have Q3_b10 := Lib.hid b10
 have Q3_b11 := Lib.hid b11
 have Q3_b12 := Lib.hid b12
 have Q3_zb1 := z_b1
 have Q3_b20 := Lib.hid b20
 have Q3_f_b20 := Lib.hid f_b20
 have Q3_b21 := Lib.hid b21
 have Q3_f_b21 := Lib.hid f_b21
 have Q3_b22 := Lib.hid b22
 have Q3_f_b22 := Lib.hid f_b22
 have Q3_zb2 := z_b2
 have BL4 : Ext w1 w1 := Ext.refl _
 go_cut [] (fun  wx => ∃ (g5 : Nat) (r5 : Nat) (g9 : Nat) (r9 : Nat), Chg (w.heap.size + 1) (w.heap.size + 1 + 1) w1 wx ∧ w1.heap.size ≤ g5 ∧ g5 < wx.heap.size ∧ w1.heap.size ≤ g9 ∧ g9 < wx.heap.size ∧ g5 ≠ g9 ∧ OwnI wx w1.heap.size (.slice (some ⟨g5, 0, none⟩) s1.length r5) s1 ∧ OwnI wx w1.heap.size (.slice (some ⟨g9, 0, none⟩) t1.length r9) t1 ∧ wx.cell? ⟨w.heap.size + 1, 0, none⟩ = some (.int .i64 b1) ∧ wx.frozen? ⟨w.heap.size + 1, 0, none⟩ = false ∧ wx.cell? ⟨w.heap.size + 1, 1, none⟩ = some (.slice (some ⟨g5, 0, none⟩) s1.length r5) ∧ wx.frozen? ⟨w.heap.size + 1, 1, none⟩ = false ∧ wx.cell? ⟨w.heap.size + 1, 2, none⟩ = some (.slice (some ⟨g9, 0, none⟩) t1.length r9) ∧ wx.frozen? ⟨w.heap.size + 1, 2, none⟩ = false)
 case first =>
  have X1 : Ext w1 w1 := Ext.refl _
  refine wp_region_held_drew (S := fun w' => w'.cell? ⟨w.heap.size, 0, none⟩ = some (.int .i64 b1) ∧ w'.cell? ⟨w.heap.size, 1, none⟩ = some (.slice p0 s1.length c0) ∧ w'.cell? ⟨w.heap.size, 2, none⟩ = some (.slice p1 t1.length c1)) qKr ⟨b10, b11, b12⟩ (fun hHeld => ?_)
  refine qHk (v := ?_) 0 rfl (.inl ⟨by rfl, ?_⟩) ?_
  rotate_left
  ·
   (intro w hSw; (try dsimp only at hSw); go_simp; try with_reducible rfl)
  try simp only [Act.put, qa, qb, qc, qD, qE, qF]
  refine qHk (v := ?_) 1 rfl (.inl ⟨by rfl, ?_⟩) ?_
  rotate_left
  ·
   (intro w hSw; (try dsimp only at hSw); go_simp; try with_reducible rfl)
  try simp only [Act.put, qa, qb, qc, qD, qE, qF]
  refine qHk (v := ?_) 3 rfl (.inl ⟨by rfl, ?_⟩) ?_
  rotate_left
  ·
   (intro w hSw; (try dsimp only at hSw); go_simp; try with_reducible rfl)
  try simp only [Act.put, qa, qb, qc, qD, qE, qF]
  refine qHk (v := ?_) 4 rfl (.inl ⟨by rfl, ?_⟩) ?_
  rotate_left
  ·
   (intro w hSw; (try dsimp only at hSw); go_simp; try with_reducible rfl)
  try simp only [Act.put, qa, qb, qc, qD, qE, qF]
  refine qHk (v := ?_) 7 rfl (.inl ⟨by rfl, ?_⟩) ?_
  rotate_left
  ·
   (intro w hSw; (try dsimp only at hSw); go_simp; try with_reducible rfl)
  try simp only [Act.put, qa, qb, qc, qD, qE, qF]
  refine qHk (v := ?_) 8 rfl (.inl ⟨by rfl, ?_⟩) ?_
  rotate_left
  ·
   (intro w hSw; (try dsimp only at hSw); go_simp; try with_reducible rfl)
  try simp only [Act.put, qa, qb, qc, qD, qE, qF]
  refine wpAnyH_ready (rs := [2, 6]) qKr (by simp) ?_
  refine AllReadyH.cons rfl (fun K hK => ?_) (AllReadyH.cons rfl (fun K hK => ?_) AllReadyH.nil)
  ·
   try simp only [Act.put, qa, qb, qc, qD, qE, qF]
   go_simp
   refine hK.out _ (w1.drew.alloc (.cells #[] 3)) ⟨(show Ext w1 (w1.drew.alloc (.cells #[] 3)) from qXt).cell b10, (show Ext w1 (w1.drew.alloc (.cells #[] 3)) from qXt).cell b11, (show Ext w1 (w1.drew.alloc (.cells #[] 3)) from qXt).cell b12⟩ (fun hHeld => ?_)
   clear hK K
   try simp only [Act.put, qa, qb, qc, qD, qE, qF]
   generalize hW2 : w1.drew.alloc (.cells #[] 3) = w1_1 at *
   have S_w1_1 : w1.heap.size < w1_1.heap.size := by subst hW2; simp
   have hx7 : Ext w1 w1_1 := by subst hW2; exact qXt
   replace X1 := X1.trans hx7
   clear hx7
   have O1_2 : OwnI w1_1 w1.heap.size (.slice (some ⟨w1.heap.size, 0, none⟩) 0 0) [] := by subst hW2; exact OwnI.lit0 _ _ (by simp)
   have Yw1_1 := Ext.refl w1_1
   clear hW2
   refine wpAnyH_ready (rs := [5, 6]) qKr (by simp) ?_
   refine AllReadyH.cons rfl (fun K hK => ?_) (AllReadyH.cons rfl (fun K hK => ?_) AllReadyH.nil)
   ·
    refine step_app0O rfl (.tmp 5) (.tmp 7) rfl rfl rfl (O1_2.ext Yw1_1) (by omega) (by exact ((h1.ext Xw1).ext (show Ext w1 w1_1 from qXt))) ?_
    intro g1_6 r1_7 w1_3 O1_4 x1_5 Eg1_6 Hg1_6
    have S_w1_3 : w1_1.heap.size ≤ w1_3.heap.size := x1_5.size
    replace Yw1_1 := Yw1_1.trans x1_5
    replace X1 := X1.trans x1_5
    have Yw1_3 := Ext.refl w1_3
    clear x1_5
    refine hK.out _ w1_3 ⟨(show Ext w1 w1_3 from qXt).cell b10, (show Ext w1 w1_3 from qXt).cell b11, (show Ext w1 w1_3 from qXt).cell b12⟩ (fun hHeld => ?_)
    clear hK K
    try simp only [Act.put, qa, qb, qc, qD, qE, qF]
    refine qHr 6 rfl (fun K hK => ?_)
    try simp only [Act.put, qa, qb, qc, qD, qE, qF]
    go_simp
    refine hK.out _ (w1_3.alloc (.cells #[] 3)) ⟨(show Ext w1 (w1_3.alloc (.cells #[] 3)) from qXt).cell b10, (show Ext w1 (w1_3.alloc (.cells #[] 3)) from qXt).cell b11, (show Ext w1 (w1_3.alloc (.cells #[] 3)) from qXt).cell b12⟩ (fun hHeld => ?_)
    clear hK K
    try simp only [Act.put, qa, qb, qc, qD, qE, qF]
    generalize hW3 : w1_3.alloc (.cells #[] 3) = w1_8 at *
    have S_w1_8 : w1_3.heap.size < w1_8.heap.size := by subst hW3; simp
    have hx7 : Ext w1_3 w1_8 := by subst hW3; exact qXt
    replace Yw1_3 := Yw1_3.trans hx7
    replace X1 := X1.trans hx7
    clear hx7
    have O1_9 : OwnI w1_8 w1_3.heap.size (.slice (some ⟨w1_3.heap.size, 0, none⟩) 0 0) [] := by subst hW3; exact OwnI.lit0 _ _ (by simp)
    have Yw1_8 := Ext.refl w1_8
    clear hW3
    refine qHr 9 rfl (fun K hK => ?_)
    refine step_app0O rfl (.tmp 9) (.tmp 11) rfl rfl rfl (O1_9.ext Yw1_8) (by omega) (by exact ((k1.ext Xw1).ext (show Ext w1 w1_8 from qXt))) ?_
    intro g1_13 r1_14 w1_10 O1_11 x1_12 Eg1_13 Hg1_13
    have S_w1_10 : w1_8.heap.size ≤ w1_10.heap.size := x1_12.size
    replace Yw1_3 := Yw1_3.trans x1_12
    replace Yw1_8 := Yw1_8.trans x1_12
    replace X1 := X1.trans x1_12
    have Yw1_10 := Ext.refl w1_10
    clear x1_12
    refine hK.out _ w1_10 ⟨(show Ext w1 w1_10 from qXt).cell b10, (show Ext w1 w1_10 from qXt).cell b11, (show Ext w1 w1_10 from qXt).cell b12⟩ (fun hHeld => ?_)
    clear hK K
    try simp only [Act.put, qa, qb, qc, qD, qE, qF]
    refine qHk (v := ?_) 10 rfl (.inl ⟨by rfl, ?_⟩) ?_
    rotate_left
    ·
     (intro w hSw; (try dsimp only at hSw); go_simp; try with_reducible rfl)
    try simp only [Act.put, qa, qb, qc, qD, qE, qF]
    refine qHr 11 rfl (fun K hK => ?_)
    try simp only [Act.put, qa, qb, qc, qD, qE, qF]
    replace b20 := X1.cell b20
    replace f_b20 := X1.frz z_b2 f_b20
    replace b21 := X1.cell b21
    replace f_b21 := X1.frz z_b2 f_b21
    replace b22 := X1.cell b22
    replace f_b22 := X1.frz z_b2 f_b22
    go_simp
    have zz := X1.size
    have K1 : Chg (w.heap.size + 1) (w.heap.size + 1 + 1) w1_10 (((w1_10.setCell ⟨w.heap.size + 1, 0, none⟩ (.int .i64 b1)).setCell ⟨w.heap.size + 1, 1, none⟩ (.slice (some ⟨g1_6, 0, none⟩) s1.length r1_7)).setCell ⟨w.heap.size + 1, 2, none⟩ (.slice (some ⟨g1_13, 0, none⟩) t1.length r1_14)) := (Chg.setCell (p := ⟨w.heap.size + 1, 2, none⟩) (Chg.setCell (p := ⟨w.heap.size + 1, 1, none⟩) (Chg.setCell (p := ⟨w.heap.size + 1, 0, none⟩) (Chg.refl (w.heap.size + 1) ((w.heap.size + 1) + 1) w1_10) (Nat.le_refl _) (Nat.lt_succ_self _) _) (Nat.le_refl _) (Nat.lt_succ_self _) _) (Nat.le_refl _) (Nat.lt_succ_self _) _)
    have n_b20 : (((w1_10.setCell ⟨w.heap.size + 1, 0, none⟩ (.int .i64 b1)).setCell ⟨w.heap.size + 1, 1, none⟩ (.slice (some ⟨g1_6, 0, none⟩) s1.length r1_7)).setCell ⟨w.heap.size + 1, 2, none⟩ (.slice (some ⟨g1_13, 0, none⟩) t1.length r1_14)).cell? ⟨w.heap.size + 1, 0, none⟩ = some (.int .i64 b1) := by go_simp
    replace f_b20 : (((w1_10.setCell ⟨w.heap.size + 1, 0, none⟩ (.int .i64 b1)).setCell ⟨w.heap.size + 1, 1, none⟩ (.slice (some ⟨g1_6, 0, none⟩) s1.length r1_7)).setCell ⟨w.heap.size + 1, 2, none⟩ (.slice (some ⟨g1_13, 0, none⟩) t1.length r1_14)).frozen? ⟨w.heap.size + 1, 0, none⟩ = false := by go_simp
    have n_b21 : (((w1_10.setCell ⟨w.heap.size + 1, 0, none⟩ (.int .i64 b1)).setCell ⟨w.heap.size + 1, 1, none⟩ (.slice (some ⟨g1_6, 0, none⟩) s1.length r1_7)).setCell ⟨w.heap.size + 1, 2, none⟩ (.slice (some ⟨g1_13, 0, none⟩) t1.length r1_14)).cell? ⟨w.heap.size + 1, 1, none⟩ = some (.slice (some ⟨g1_6, 0, none⟩) s1.length r1_7) := by go_simp
    replace f_b21 : (((w1_10.setCell ⟨w.heap.size + 1, 0, none⟩ (.int .i64 b1)).setCell ⟨w.heap.size + 1, 1, none⟩ (.slice (some ⟨g1_6, 0, none⟩) s1.length r1_7)).setCell ⟨w.heap.size + 1, 2, none⟩ (.slice (some ⟨g1_13, 0, none⟩) t1.length r1_14)).frozen? ⟨w.heap.size + 1, 1, none⟩ = false := by go_simp
    have n_b22 : (((w1_10.setCell ⟨w.heap.size + 1, 0, none⟩ (.int .i64 b1)).setCell ⟨w.heap.size + 1, 1, none⟩ (.slice (some ⟨g1_6, 0, none⟩) s1.length r1_7)).setCell ⟨w.heap.size + 1, 2, none⟩ (.slice (some ⟨g1_13, 0, none⟩) t1.length r1_14)).cell? ⟨w.heap.size + 1, 2, none⟩ = some (.slice (some ⟨g1_13, 0, none⟩) t1.length r1_14) := by go_simp
    replace f_b22 : (((w1_10.setCell ⟨w.heap.size + 1, 0, none⟩ (.int .i64 b1)).setCell ⟨w.heap.size + 1, 1, none⟩ (.slice (some ⟨g1_6, 0, none⟩) s1.length r1_7)).setCell ⟨w.heap.size + 1, 2, none⟩ (.slice (some ⟨g1_13, 0, none⟩) t1.length r1_14)).frozen? ⟨w.heap.size + 1, 2, none⟩ = false := by go_simp
    replace O1_4 := (O1_4.ext Yw1_3).chgN K1 (by omega)
    replace O1_11 := (O1_11.ext Yw1_10).chgN K1 (by omega)
    have C1 : Chg (w.heap.size + 1) (w.heap.size + 1 + 1) w1 (((w1_10.setCell ⟨w.heap.size + 1, 0, none⟩ (.int .i64 b1)).setCell ⟨w.heap.size + 1, 1, none⟩ (.slice (some ⟨g1_6, 0, none⟩) s1.length r1_7)).setCell ⟨w.heap.size + 1, 2, none⟩ (.slice (some ⟨g1_13, 0, none⟩) t1.length r1_14)) := (Chg.of_ext X1).trans K1
    clear zz K1
    have S_st : w1_10.heap.size ≤ (((w1_10.setCell ⟨w.heap.size + 1, 0, none⟩ (.int .i64 b1)).setCell ⟨w.heap.size + 1, 1, none⟩ (.slice (some ⟨g1_6, 0, none⟩) s1.length r1_7)).setCell ⟨w.heap.size + 1, 2, none⟩ (.slice (some ⟨g1_13, 0, none⟩) t1.length r1_14)).heap.size := by simp
    refine hK.out _ ((((w1_10.setCell ⟨w.heap.size + 1, 0, none⟩ (.int .i64 b1)).setCell ⟨w.heap.size + 1, 1, none⟩ (.slice (some ⟨g1_6, 0, none⟩) s1.length r1_7)).setCell ⟨w.heap.size + 1, 2, none⟩ (.slice (some ⟨g1_13, 0, none⟩) t1.length r1_14))) ⟨C1.cell (by omega) b10, C1.cell (by omega) b11, C1.cell (by omega) b12⟩ (fun hHeld => ?_)
    clear hK K
    try simp only [Act.put, qa, qb, qc, qD, qE, qF]
    refine wpAnyH_done qKr ?_ _
    clear hHeld
    have zz := X1.size
    go_step
    go_step
    go_meet
    case rel => exact ⟨g1_6, r1_7, g1_13, r1_14, C1, (by omega), (by omega), (by omega), (by omega), (by omega), (O1_4).lower (by omega), (O1_11).lower (by omega), n_b20, f_b20, n_b21, f_b21, n_b22, f_b22⟩
   ·
    try simp only [Act.put, qa, qb, qc, qD, qE, qF]
    go_simp
    refine hK.out _ (w1_1.alloc (.cells #[] 3)) ⟨(show Ext w1 (w1_1.alloc (.cells #[] 3)) from qXt).cell b10, (show Ext w1 (w1_1.alloc (.cells #[] 3)) from qXt).cell b11, (show Ext w1 (w1_1.alloc (.cells #[] 3)) from qXt).cell b12⟩ (fun hHeld => ?_)
    clear hK K
    try simp only [Act.put, qa, qb, qc, qD, qE, qF]
    generalize hW4 : w1_1.alloc (.cells #[] 3) = w1_15 at *
    have S_w1_15 : w1_1.heap.size < w1_15.heap.size := by subst hW4; simp
    have hx7 : Ext w1_1 w1_15 := by subst hW4; exact qXt
    replace Yw1_1 := Yw1_1.trans hx7
    replace X1 := X1.trans hx7
    clear hx7
    have O1_16 : OwnI w1_15 w1_1.heap.size (.slice (some ⟨w1_1.heap.size, 0, none⟩) 0 0) [] := by subst hW4; exact OwnI.lit0 _ _ (by simp)
    have Yw1_15 := Ext.refl w1_15
    clear hW4
    refine qHr 5 rfl (fun K hK => ?_)
    refine step_app0O rfl (.tmp 5) (.tmp 7) rfl rfl rfl (O1_2.ext Yw1_1) (by omega) (by exact ((h1.ext Xw1).ext (show Ext w1 w1_15 from qXt))) ?_
    intro g1_20 r1_21 w1_17 O1_18 x1_19 Eg1_20 Hg1_20
    have S_w1_17 : w1_15.heap.size ≤ w1_17.heap.size := x1_19.size
    replace Yw1_1 := Yw1_1.trans x1_19
    replace Yw1_15 := Yw1_15.trans x1_19
    replace X1 := X1.trans x1_19
    have Yw1_17 := Ext.refl w1_17
    clear x1_19
    refine hK.out _ w1_17 ⟨(show Ext w1 w1_17 from qXt).cell b10, (show Ext w1 w1_17 from qXt).cell b11, (show Ext w1 w1_17 from qXt).cell b12⟩ (fun hHeld => ?_)
    clear hK K
    try simp only [Act.put, qa, qb, qc, qD, qE, qF]
    refine qHr 9 rfl (fun K hK => ?_)
    refine step_app0O rfl (.tmp 9) (.tmp 11) rfl rfl rfl (O1_16.ext Yw1_15) (by omega) (by exact ((k1.ext Xw1).ext (show Ext w1 w1_17 from qXt))) ?_
    intro g1_25 r1_26 w1_22 O1_23 x1_24 Eg1_25 Hg1_25
    have S_w1_22 : w1_17.heap.size ≤ w1_22.heap.size := x1_24.size
    replace Yw1_15 := Yw1_15.trans x1_24
    replace Yw1_17 := Yw1_17.trans x1_24
    replace X1 := X1.trans x1_24
    have Yw1_22 := Ext.refl w1_22
    clear x1_24
    refine hK.out _ w1_22 ⟨(show Ext w1 w1_22 from qXt).cell b10, (show Ext w1 w1_22 from qXt).cell b11, (show Ext w1 w1_22 from qXt).cell b12⟩ (fun hHeld => ?_)
    clear hK K
    try simp only [Act.put, qa, qb, qc, qD, qE, qF]
    refine qHk (v := ?_) 10 rfl (.inl ⟨by rfl, ?_⟩) ?_
    rotate_left
    ·
     (intro w hSw; (try dsimp only at hSw); go_simp; try with_reducible rfl)
    try simp only [Act.put, qa, qb, qc, qD, qE, qF]
    refine qHr 11 rfl (fun K hK => ?_)
    try simp only [Act.put, qa, qb, qc, qD, qE, qF]
    replace b20 := X1.cell b20
    replace f_b20 := X1.frz z_b2 f_b20
    replace b21 := X1.cell b21
    replace f_b21 := X1.frz z_b2 f_b21
    replace b22 := X1.cell b22
    replace f_b22 := X1.frz z_b2 f_b22
    go_simp
    have zz := X1.size
    have K1 : Chg (w.heap.size + 1) (w.heap.size + 1 + 1) w1_22 (((w1_22.setCell ⟨w.heap.size + 1, 0, none⟩ (.int .i64 b1)).setCell ⟨w.heap.size + 1, 1, none⟩ (.slice (some ⟨g1_20, 0, none⟩) s1.length r1_21)).setCell ⟨w.heap.size + 1, 2, none⟩ (.slice (some ⟨g1_25, 0, none⟩) t1.length r1_26)) := (Chg.setCell (p := ⟨w.heap.size + 1, 2, none⟩) (Chg.setCell (p := ⟨w.heap.size + 1, 1, none⟩) (Chg.setCell (p := ⟨w.heap.size + 1, 0, none⟩) (Chg.refl (w.heap.size + 1) ((w.heap.size + 1) + 1) w1_22) (Nat.le_refl _) (Nat.lt_succ_self _) _) (Nat.le_refl _) (Nat.lt_succ_self _) _) (Nat.le_refl _) (Nat.lt_succ_self _) _)
    have n_b20 : (((w1_22.setCell ⟨w.heap.size + 1, 0, none⟩ (.int .i64 b1)).setCell ⟨w.heap.size + 1, 1, none⟩ (.slice (some ⟨g1_20, 0, none⟩) s1.length r1_21)).setCell ⟨w.heap.size + 1, 2, none⟩ (.slice (some ⟨g1_25, 0, none⟩) t1.length r1_26)).cell? ⟨w.heap.size + 1, 0, none⟩ = some (.int .i64 b1) := by go_simp
    replace f_b20 : (((w1_22.setCell ⟨w.heap.size + 1, 0, none⟩ (.int .i64 b1)).setCell ⟨w.heap.size + 1, 1, none⟩ (.slice (some ⟨g1_20, 0, none⟩) s1.length r1_21)).setCell ⟨w.heap.size + 1, 2, none⟩ (.slice (some ⟨g1_25, 0, none⟩) t1.length r1_26)).frozen? ⟨w.heap.size + 1, 0, none⟩ = false := by go_simp
    have n_b21 : (((w1_22.setCell ⟨w.heap.size + 1, 0, none⟩ (.int .i64 b1)).setCell ⟨w.heap.size + 1, 1, none⟩ (.slice (some ⟨g1_20, 0, none⟩) s1.length r1_21)).setCell ⟨w.heap.size + 1, 2, none⟩ (.slice (some ⟨g1_25, 0, none⟩) t1.length r1_26)).cell? ⟨w.heap.size + 1, 1, none⟩ = some (.slice (some ⟨g1_20, 0, none⟩) s1.length r1_21) := by go_simp
    replace f_b21 : (((w1_22.setCell ⟨w.heap.size + 1, 0, none⟩ (.int .i64 b1)).setCell ⟨w.heap.size + 1, 1, none⟩ (.slice (some ⟨g1_20, 0, none⟩) s1.length r1_21)).setCell ⟨w.heap.size + 1, 2, none⟩ (.slice (some ⟨g1_25, 0, none⟩) t1.length r1_26)).frozen? ⟨w.heap.size + 1, 1, none⟩ = false := by go_simp
    have n_b22 : (((w1_22.setCell ⟨w.heap.size + 1, 0, none⟩ (.int .i64 b1)).setCell ⟨w.heap.size + 1, 1, none⟩ (.slice (some ⟨g1_20, 0, none⟩) s1.length r1_21)).setCell ⟨w.heap.size + 1, 2, none⟩ (.slice (some ⟨g1_25, 0, none⟩) t1.length r1_26)).cell? ⟨w.heap.size + 1, 2, none⟩ = some (.slice (some ⟨g1_25, 0, none⟩) t1.length r1_26) := by go_simp
    replace f_b22 : (((w1_22.setCell ⟨w.heap.size + 1, 0, none⟩ (.int .i64 b1)).setCell ⟨w.heap.size + 1, 1, none⟩ (.slice (some ⟨g1_20, 0, none⟩) s1.length r1_21)).setCell ⟨w.heap.size + 1, 2, none⟩ (.slice (some ⟨g1_25, 0, none⟩) t1.length r1_26)).frozen? ⟨w.heap.size + 1, 2, none⟩ = false := by go_simp
    replace O1_18 := (O1_18.ext Yw1_17).chgN K1 (by omega)
    replace O1_23 := (O1_23.ext Yw1_22).chgN K1 (by omega)
    have C1 : Chg (w.heap.size + 1) (w.heap.size + 1 + 1) w1 (((w1_22.setCell ⟨w.heap.size + 1, 0, none⟩ (.int .i64 b1)).setCell ⟨w.heap.size + 1, 1, none⟩ (.slice (some ⟨g1_20, 0, none⟩) s1.length r1_21)).setCell ⟨w.heap.size + 1, 2, none⟩ (.slice (some ⟨g1_25, 0, none⟩) t1.length r1_26)) := (Chg.of_ext X1).trans K1
    clear zz K1
    have S_st : w1_22.heap.size ≤ (((w1_22.setCell ⟨w.heap.size + 1, 0, none⟩ (.int .i64 b1)).setCell ⟨w.heap.size + 1, 1, none⟩ (.slice (some ⟨g1_20, 0, none⟩) s1.length r1_21)).setCell ⟨w.heap.size + 1, 2, none⟩ (.slice (some ⟨g1_25, 0, none⟩) t1.length r1_26)).heap.size := by simp
    refine hK.out _ ((((w1_22.setCell ⟨w.heap.size + 1, 0, none⟩ (.int .i64 b1)).setCell ⟨w.heap.size + 1, 1, none⟩ (.slice (some ⟨g1_20, 0, none⟩) s1.length r1_21)).setCell ⟨w.heap.size + 1, 2, none⟩ (.slice (some ⟨g1_25, 0, none⟩) t1.length r1_26))) ⟨C1.cell (by omega) b10, C1.cell (by omega) b11, C1.cell (by omega) b12⟩ (fun hHeld => ?_)
    clear hK K
    try simp only [Act.put, qa, qb, qc, qD, qE, qF]
    refine wpAnyH_done qKr ?_ _
    clear hHeld
    have zz := X1.size
    go_step
    go_step
    go_meet
    case rel => exact ⟨g1_20, r1_21, g1_25, r1_26, C1, (by omega), (by omega), (by omega), (by omega), (by omega), (O1_18).lower (by omega), (O1_23).lower (by omega), n_b20, f_b20, n_b21, f_b21, n_b22, f_b22⟩
  ·
   try simp only [Act.put, qa, qb, qc, qD, qE, qF]
   go_simp
   refine hK.out _ (w1.drew.alloc (.cells #[] 3)) ⟨(show Ext w1 (w1.drew.alloc (.cells #[] 3)) from qXt).cell b10, (show Ext w1 (w1.drew.alloc (.cells #[] 3)) from qXt).cell b11, (show Ext w1 (w1.drew.alloc (.cells #[] 3)) from qXt).cell b12⟩ (fun hHeld => ?_)
   clear hK K
   try simp only [Act.put, qa, qb, qc, qD, qE, qF]
   generalize hW5 : w1.drew.alloc (.cells #[] 3) = w1_27 at *
   have S_w1_27 : w1.heap.size < w1_27.heap.size := by subst hW5; simp
   have hx7 : Ext w1 w1_27 := by subst hW5; exact qXt
   replace X1 := X1.trans hx7
   clear hx7
   have O1_28 : OwnI w1_27 w1.heap.size (.slice (some ⟨w1.heap.size, 0, none⟩) 0 0) [] := by subst hW5; exact OwnI.lit0 _ _ (by simp)
   have Yw1_27 := Ext.refl w1_27
   clear hW5
   refine qHr 2 rfl (fun K hK => ?_)
   try simp only [Act.put, qa, qb, qc, qD, qE, qF]
   go_simp
   refine hK.out _ (w1_27.alloc (.cells #[] 3)) ⟨(show Ext w1 (w1_27.alloc (.cells #[] 3)) from qXt).cell b10, (show Ext w1 (w1_27.alloc (.cells #[] 3)) from qXt).cell b11, (show Ext w1 (w1_27.alloc (.cells #[] 3)) from qXt).cell b12⟩ (fun hHeld => ?_)
   clear hK K
   try simp only [Act.put, qa, qb, qc, qD, qE, qF]
   generalize hW6 : w1_27.alloc (.cells #[] 3) = w1_29 at *
   have S_w1_29 : w1_27.heap.size < w1_29.heap.size := by subst hW6; simp
   have hx7 : Ext w1_27 w1_29 := by subst hW6; exact qXt
   replace Yw1_27 := Yw1_27.trans hx7
   replace X1 := X1.trans hx7
   clear hx7
   have O1_30 : OwnI w1_29 w1_27.heap.size (.slice (some ⟨w1_27.heap.size, 0, none⟩) 0 0) [] := by subst hW6; exact OwnI.lit0 _ _ (by simp)
   have Yw1_29 := Ext.refl w1_29
   clear hW6
   refine qHr 5 rfl (fun K hK => ?_)
   refine step_app0O rfl (.tmp 5) (.tmp 7) rfl rfl rfl (O1_30.ext Yw1_29) (by omega) (by exact ((h1.ext Xw1).ext (show Ext w1 w1_29 from qXt))) ?_
   intro g1_34 r1_35 w1_31 O1_32 x1_33 Eg1_34 Hg1_34
   have S_w1_31 : w1_29.heap.size ≤ w1_31.heap.size := x1_33.size
   replace Yw1_27 := Yw1_27.trans x1_33
   replace Yw1_29 := Yw1_29.trans x1_33
   replace X1 := X1.trans x1_33
   have Yw1_31 := Ext.refl w1_31
   clear x1_33
   refine hK.out _ w1_31 ⟨(show Ext w1 w1_31 from qXt).cell b10, (show Ext w1 w1_31 from qXt).cell b11, (show Ext w1 w1_31 from qXt).cell b12⟩ (fun hHeld => ?_)
   clear hK K
   try simp only [Act.put, qa, qb, qc, qD, qE, qF]
   refine qHr 9 rfl (fun K hK => ?_)
   refine step_app0O rfl (.tmp 9) (.tmp 11) rfl rfl rfl (O1_28.ext Yw1_27) (by omega) (by exact ((k1.ext Xw1).ext (show Ext w1 w1_31 from qXt))) ?_
   intro g1_39 r1_40 w1_36 O1_37 x1_38 Eg1_39 Hg1_39
   have S_w1_36 : w1_31.heap.size ≤ w1_36.heap.size := x1_38.size
   replace Yw1_27 := Yw1_27.trans x1_38
   replace Yw1_31 := Yw1_31.trans x1_38
   replace X1 := X1.trans x1_38
   have Yw1_36 := Ext.refl w1_36
   clear x1_38
   refine hK.out _ w1_36 ⟨(show Ext w1 w1_36 from qXt).cell b10, (show Ext w1 w1_36 from qXt).cell b11, (show Ext w1 w1_36 from qXt).cell b12⟩ (fun hHeld => ?_)
   clear hK K
   try simp only [Act.put, qa, qb, qc, qD, qE, qF]
   refine qHk (v := ?_) 10 rfl (.inl ⟨by rfl, ?_⟩) ?_
   rotate_left
   ·
    (intro w hSw; (try dsimp only at hSw); go_simp; try with_reducible rfl)
   try simp only [Act.put, qa, qb, qc, qD, qE, qF]
   refine qHr 11 rfl (fun K hK => ?_)
   try simp only [Act.put, qa, qb, qc, qD, qE, qF]
   replace b20 := X1.cell b20
   replace f_b20 := X1.frz z_b2 f_b20
   replace b21 := X1.cell b21
   replace f_b21 := X1.frz z_b2 f_b21
   replace b22 := X1.cell b22
   replace f_b22 := X1.frz z_b2 f_b22
   go_simp
   have zz := X1.size
   have K1 : Chg (w.heap.size + 1) (w.heap.size + 1 + 1) w1_36 (((w1_36.setCell ⟨w.heap.size + 1, 0, none⟩ (.int .i64 b1)).setCell ⟨w.heap.size + 1, 1, none⟩ (.slice (some ⟨g1_34, 0, none⟩) s1.length r1_35)).setCell ⟨w.heap.size + 1, 2, none⟩ (.slice (some ⟨g1_39, 0, none⟩) t1.length r1_40)) := (Chg.setCell (p := ⟨w.heap.size + 1, 2, none⟩) (Chg.setCell (p := ⟨w.heap.size + 1, 1, none⟩) (Chg.setCell (p := ⟨w.heap.size + 1, 0, none⟩) (Chg.refl (w.heap.size + 1) ((w.heap.size + 1) + 1) w1_36) (Nat.le_refl _) (Nat.lt_succ_self _) _) (Nat.le_refl _) (Nat.lt_succ_self _) _) (Nat.le_refl _) (Nat.lt_succ_self _) _)
   have n_b20 : (((w1_36.setCell ⟨w.heap.size + 1, 0, none⟩ (.int .i64 b1)).setCell ⟨w.heap.size + 1, 1, none⟩ (.slice (some ⟨g1_34, 0, none⟩) s1.length r1_35)).setCell ⟨w.heap.size + 1, 2, none⟩ (.slice (some ⟨g1_39, 0, none⟩) t1.length r1_40)).cell? ⟨w.heap.size + 1, 0, none⟩ = some (.int .i64 b1) := by go_simp
   replace f_b20 : (((w1_36.setCell ⟨w.heap.size + 1, 0, none⟩ (.int .i64 b1)).setCell ⟨w.heap.size + 1, 1, none⟩ (.slice (some ⟨g1_34, 0, none⟩) s1.length r1_35)).setCell ⟨w.heap.size + 1, 2, none⟩ (.slice (some ⟨g1_39, 0, none⟩) t1.length r1_40)).frozen? ⟨w.heap.size + 1, 0, none⟩ = false := by go_simp
   have n_b21 : (((w1_36.setCell ⟨w.heap.size + 1, 0, none⟩ (.int .i64 b1)).setCell ⟨w.heap.size + 1, 1, none⟩ (.slice (some ⟨g1_34, 0, none⟩) s1.length r1_35)).setCell ⟨w.heap.size + 1, 2, none⟩ (.slice (some ⟨g1_39, 0, none⟩) t1.length r1_40)).cell? ⟨w.heap.size + 1, 1, none⟩ = some (.slice (some ⟨g1_34, 0, none⟩) s1.length r1_35) := by go_simp
   replace f_b21 : (((w1_36.setCell ⟨w.heap.size + 1, 0, none⟩ (.int .i64 b1)).setCell ⟨w.heap.size + 1, 1, none⟩ (.slice (some ⟨g1_34, 0, none⟩) s1.length r1_35)).setCell ⟨w.heap.size + 1, 2, none⟩ (.slice (some ⟨g1_39, 0, none⟩) t1.length r1_40)).frozen? ⟨w.heap.size + 1, 1, none⟩ = false := by go_simp
   have n_b22 : (((w1_36.setCell ⟨w.heap.size + 1, 0, none⟩ (.int .i64 b1)).setCell ⟨w.heap.size + 1, 1, none⟩ (.slice (some ⟨g1_34, 0, none⟩) s1.length r1_35)).setCell ⟨w.heap.size + 1, 2, none⟩ (.slice (some ⟨g1_39, 0, none⟩) t1.length r1_40)).cell? ⟨w.heap.size + 1, 2, none⟩ = some (.slice (some ⟨g1_39, 0, none⟩) t1.length r1_40) := by go_simp
   replace f_b22 : (((w1_36.setCell ⟨w.heap.size + 1, 0, none⟩ (.int .i64 b1)).setCell ⟨w.heap.size + 1, 1, none⟩ (.slice (some ⟨g1_34, 0, none⟩) s1.length r1_35)).setCell ⟨w.heap.size + 1, 2, none⟩ (.slice (some ⟨g1_39, 0, none⟩) t1.length r1_40)).frozen? ⟨w.heap.size + 1, 2, none⟩ = false := by go_simp
   replace O1_32 := (O1_32.ext Yw1_31).chgN K1 (by omega)
   replace O1_37 := (O1_37.ext Yw1_36).chgN K1 (by omega)
   have C1 : Chg (w.heap.size + 1) (w.heap.size + 1 + 1) w1 (((w1_36.setCell ⟨w.heap.size + 1, 0, none⟩ (.int .i64 b1)).setCell ⟨w.heap.size + 1, 1, none⟩ (.slice (some ⟨g1_34, 0, none⟩) s1.length r1_35)).setCell ⟨w.heap.size + 1, 2, none⟩ (.slice (some ⟨g1_39, 0, none⟩) t1.length r1_40)) := (Chg.of_ext X1).trans K1
   clear zz K1
   have S_st : w1_36.heap.size ≤ (((w1_36.setCell ⟨w.heap.size + 1, 0, none⟩ (.int .i64 b1)).setCell ⟨w.heap.size + 1, 1, none⟩ (.slice (some ⟨g1_34, 0, none⟩) s1.length r1_35)).setCell ⟨w.heap.size + 1, 2, none⟩ (.slice (some ⟨g1_39, 0, none⟩) t1.length r1_40)).heap.size := by simp
   refine hK.out _ ((((w1_36.setCell ⟨w.heap.size + 1, 0, none⟩ (.int .i64 b1)).setCell ⟨w.heap.size + 1, 1, none⟩ (.slice (some ⟨g1_34, 0, none⟩) s1.length r1_35)).setCell ⟨w.heap.size + 1, 2, none⟩ (.slice (some ⟨g1_39, 0, none⟩) t1.length r1_40))) ⟨C1.cell (by omega) b10, C1.cell (by omega) b11, C1.cell (by omega) b12⟩ (fun hHeld => ?_)
   clear hK K
   try simp only [Act.put, qa, qb, qc, qD, qE, qF]
   refine wpAnyH_done qKr ?_ _
   clear hHeld
   have zz := X1.size
   go_step
   go_step
   go_meet
   case rel => exact ⟨g1_34, r1_35, g1_39, r1_40, C1, (by omega), (by omega), (by omega), (by omega), (by omega), (O1_32).lower (by omega), (O1_37).lower (by omega), n_b20, f_b20, n_b21, f_b21, n_b22, f_b22⟩
 case rest =>
  generalize wc = wc5 at hcut ⊢
  obtain ⟨g7, r8, g9, r10, xx6, Gg7, Hg7, Gg9, Hg9, Dg7g9, O11, O12, N_b20, M_b20, N_b21, M_b21, N_b22, M_b22⟩ := hcut
  have zc_wc5 := xx6.size
  have Xwc5 : Ext w wc5 := Ext.chg Xw1 xx6 (by omega)
  replace b10 := xx6.cell (by omega) b10
  replace b11 := xx6.cell (by omega) b11
  replace b12 := xx6.cell (by omega) b12
  replace b20 := N_b20
  clear N_b20
  replace f_b20 := M_b20
  clear M_b20
  replace b21 := N_b21
  clear N_b21
  replace f_b21 := M_b21
  clear M_b21
  replace b22 := N_b22
  clear N_b22
  replace f_b22 := M_b22
  clear M_b22
  have z_b1 : w.heap.size < wc5.heap.size := qB b10
  have z_b2 : w.heap.size + 1 < wc5.heap.size := qB b20
  have s_wc5 : w.heap.size ≤ wc5.heap.size := Xwc5.size
  clear xx6
  go_wp2_with fail
  refine bodyPost_ret (v := .agg #[.int .i64 b1, .slice (some ⟨g7, 0, none⟩) s1.length r8, .slice (some ⟨g9, 0, none⟩) t1.length r10]) (by simp only [results, Try.results94]; go_simp) rfl ?_
  exact ⟨g7, g9, _, _, rfl, O11.lower (by omega), O12.lower (by omega), by omega, by omega, by omega, by omega, by omega, (Xwc5.trans qXt)⟩


end Go.Proofs.Ytonnnjaooifpjaa

/- Plain laws: other shapes of the same cells, there and back. -/
namespace Go.Proofs.Ytonnnjaooifpjaa
open Go.RowKit
set_option linter.unusedVariables false
set_option linter.unusedSimpArgs false

/-- strides, 0 where there are not two -/
def maskR : List Int → List Int → List Int
  | e :: s, x :: t => (if 1 < e then x else 0) :: maskR s t
  | _, _ => []
theorem maskR_len : ∀ (s t : List Int), t.length = s.length → (maskR s t).length = s.length
  | [], [], _ => rfl
  | e :: s, x :: t, h => by rw [maskR, List.length_cons, List.length_cons, maskR_len s t (by simpa using h)]
  | [], x :: t, h => by simp at h
  | e :: s, [], h => by simp at h
theorem maskR_get : ∀ (s t : List Int) (i : Nat), t.length = s.length → i < s.length → (maskR s t).getD i 0 = if 1 < s.getD i 0 then t.getD i 0 else 0
  | [], _, i, _, h => absurd h (by simp)
  | e :: s, x :: t, 0, _, _ => by rw [maskR]; rfl
  | e :: s, x :: t, i+1, h, hi => by
    rw [maskR, List.getD_cons_succ, List.getD_cons_succ, List.getD_cons_succ]
    exact maskR_get s t i (by simpa using h) (by simpa using hi)
  | e :: s, [], _, h, _ => by simp at h
theorem mask_off : ∀ (s t : List Int) (b : Int), t.length = s.length → offC b s (maskR s t) = offC b s t
  | [], [], b, _ => rfl
  | e :: s, x :: t, b, h => by
    rw [maskR, offC_cons, offC_cons, mask_off s t b (by simpa using h)]
    refine flatMap_same fun i hi => ?_
    have hi := List.mem_range.1 hi
    by_cases h1 : 1 < e
    · rw [if_pos h1]
    · rw [if_neg h1]
      obtain rfl : i = 0 := by omega
      simp
  | [], x :: t, b, h => by simp at h
  | e :: s, [], b, h => by simp at h
theorem ext_getD {a b : List Int} (hl : a.length = b.length) (h : ∀ i, i < a.length → a.getD i 0 = b.getD i 0) : a = b := by
  apply List.ext_getElem hl
  intro i h1 h2
  have := h i h1
  rw [getD_get h1, getD_get h2] at this
  exact this
end Go.Proofs.Ytonnnjaooifpjaa

/- Plain laws: Reshape, of dense views too; two dimensions that are one, one that is two. -/
namespace Go.Proofs.Ytonnnjaooifpjaa
open Go.RowKit
set_option linter.unusedVariables false
set_option linter.unusedSimpArgs false
set_option maxRecDepth 100000

theorem offs_none {b : Int} {s t : List Int} (h : countL s = 0) : offsL b s t = [] := by unfold offsL; rw [h]; rfl
theorem zero_view {u : List Int} (hu : shapeB u = true) (hc : countL u = 0) : viewB 0 u (List.replicate u.length 0) = true :=
  (viewB_zero hc).2 ⟨hu, by simp, by omega, fun x hx => by rw [List.mem_replicate] at hx; omega⟩
end Go.Proofs.Ytonnnjaooifpjaa

/- Walks: SameView of the program. -/
namespace Go.Proofs.Ytonnnjaooifpjaa
open Go.RowKit
set_option linter.unusedVariables false
set_option maxRecDepth 100000


end Go.Proofs.Ytonnnjaooifpjaa

/- Walks: CountOf of the program. -/
namespace Go.Proofs.Ytonnnjaooifpjaa
open Go.RowKit
set_option linter.unusedVariables false
set_option maxRecDepth 100000


def cntA (s : List Int) : Int := if shapeB s then countL s else -1

set_option maxHeartbeats 1600000 in
theorem implCountOf_c (s : List Int) (v1 : Value) (w : World) (l1 : Nat) (h1 : Ints w l1 v1 s) :
    Calls Try.prog 34 #[v1] w (fun e w' => e = .returned (.int .i64 (cntA s)) ∧ w = w') := by
  obtain ⟨p0, c0, rfl⟩ := h1.form
  go_enter Try.func34, Try.ntmps34
  go_wp2_with fail
  refine (isShape_c s (.slice p0 s.length c0) _ _ (h1.ext qXt)).mono ?_
  rintro e w' ⟨rfl, rfl⟩
  cases hB1 : shapeB s
  · replace hB1 := Lib.hid hB1
    go_wp2_with fail
    go_ret
    exact ⟨by rw [show cntA s = -1 by unfold cntA; rw [hB1.out]; rfl] <;> rfl, rfl⟩
  · replace hB1 := Lib.hid hB1
    go_wp2_with fail
    refine (countOf_c s (.slice p0 s.length c0) _ _ (h1.ext qXt)).mono ?_
    rintro e w' ⟨rfl, rfl⟩
    go_wp2_with fail
    go_ret
    exact ⟨by rw [show cntA s = countL s by unfold cntA; rw [hB1.out]; rfl] <;> rfl, rfl⟩


end Go.Proofs.Ytonnnjaooifpjaa

/- Plain laws: Reshape as the laws ask it. -/
namespace Go.Proofs.Ytonnnjaooifpjaa
open Go.RowKit
set_option linter.unusedVariables false
set_option maxRecDepth 100000

theorem offA_of {b : Int} {s t : List Int} (h : viewB b s t = true) : offA b s t = offsL b s t := by unfold offA; rw [h]; rfl
theorem cntA_of {s : List Int} (h : shapeB s = true) : cntA s = countL s := by unfold cntA; rw [h]; rfl
end Go.Proofs.Ytonnnjaooifpjaa

/- Walks: slices.Insert of one number into a row of one's own. -/
namespace Go.Proofs.Ytonnnjaooifpjaa
open Go.RowKit
set_option linter.unusedVariables false
set_option maxRecDepth 100000

end Go.Proofs.Ytonnnjaooifpjaa

/- Plain laws: one more dimension. -/
namespace Go.Proofs.Ytonnnjaooifpjaa
open Go.RowKit
set_option linter.unusedVariables false
set_option maxRecDepth 100000

end Go.Proofs.Ytonnnjaooifpjaa

/- Plain laws: what a slice takes of a dimension, as the program reckons it. -/
namespace Go.Proofs.Ytonnnjaooifpjaa
open Go.RowKit
set_option linter.unusedVariables false
set_option maxRecDepth 100000

end Go.Proofs.Ytonnnjaooifpjaa

/- Walks: slices of the program. -/
namespace Go.Proofs.Ytonnnjaooifpjaa
open Go.RowKit
set_option linter.unusedVariables false
set_option maxRecDepth 100000

end Go.Proofs.Ytonnnjaooifpjaa

/- Walks: sliceDim of the program. -/
namespace Go.Proofs.Ytonnnjaooifpjaa
open Go.RowKit
set_option linter.unusedVariables false
set_option maxRecDepth 100000


end Go.Proofs.Ytonnnjaooifpjaa

/- Walks: SliceDim of the program. -/
namespace Go.Proofs.Ytonnnjaooifpjaa
open Go.RowKit
set_option linter.unusedVariables false
set_option maxRecDepth 100000


end Go.Proofs.Ytonnnjaooifpjaa

/- Plain laws: a picked number of a dimension, and the slice of that number alone. -/
namespace Go.Proofs.Ytonnnjaooifpjaa
open Go.RowKit
set_option linter.unusedVariables false
set_option maxRecDepth 100000

end Go.Proofs.Ytonnnjaooifpjaa

/- Walks: WindowsOf of the program. -/
namespace Go.Proofs.Ytonnnjaooifpjaa
open Go.RowKit
set_option linter.unusedVariables false
set_option maxRecDepth 100000


end Go.Proofs.Ytonnnjaooifpjaa

/- Plain laws: orders and their inverses, cells of views with their dimensions in another order. -/
namespace Go.Proofs.Ytonnnjaooifpjaa
open Go.RowKit
set_option linter.unusedVariables false
set_option maxRecDepth 100000

end Go.Proofs.Ytonnnjaooifpjaa

/- Plain laws: windows of a dimension are slices of it. -/
namespace Go.Proofs.Ytonnnjaooifpjaa
open Go.RowKit
set_option linter.unusedVariables false
set_option maxRecDepth 100000

end Go.Proofs.Ytonnnjaooifpjaa

/- Plain laws: diagonals of views. -/
namespace Go.Proofs.Ytonnnjaooifpjaa
open Go.RowKit
set_option linter.unusedVariables false
set_option maxRecDepth 100000

theorem flat_one {β : Type} (n : Nat) (i : Nat) (f : Nat → List β) (hi : i < n) (h : ∀ j, j ≠ i → f j = []) : (List.range n).flatMap f = f i := by
  induction n with
  | zero => omega
  | succ n ih =>
    rw [List.range_succ, List.flatMap_append, List.flatMap_cons, List.flatMap_nil, List.append_nil]
    by_cases hn : i = n
    · subst hn
      have : (List.range i).flatMap f = [] := by
        rw [List.flatMap_eq_nil_iff]
        intro j hj
        exact h j (by have := List.mem_range.1 hj; omega)
      rw [this, List.nil_append]
    · rw [ih (by omega), h n (by omega), List.append_nil]
/-- the cells of the indices with the number i at m -/
theorem pick_fil : ∀ (s t : List Int) (m : Nat) (b i : Int), m < s.length → t.length = s.length → 0 ≤ i → i < s.getD m 0 →
    ((idxR s).filter fun r => r.getD m 0 == i).map (fun r => dotC b r t) = offC (b + i * t.getD m 0) (delL s m) (delL t m)
  | [], _, m, b, i, h, _, _, _ => by simp at h
  | f :: s, [], m, b, i, _, h, _, _ => by simp at h
  | f :: s, y :: t, 0, b, i, _, hl, h0, h1 => by
    rw [delL_zero, delL_zero, idxR, List.filter_flatMap, List.map_flatMap]
    have h1 : i < f := by simpa using h1
    rw [flat_one _ i.toNat _ (by omega) fun j hj => ?_]
    · rw [List.filter_map, List.map_map]
      have : ((fun r : List Int => r.getD 0 0 == i) ∘ fun r => (i.toNat : Int) :: r) = fun _ => true := by
        funext r; simp [Function.comp]; omega
      rw [this, List.filter_eq_self.2 fun _ _ => rfl]
      unfold offC
      refine List.map_congr_left fun r _ => ?_
      have hi : (i.toNat : Int) = i := by omega
      simp only [Function.comp, dotC, hi, List.getD_cons_zero]
      rw [dotC_add]; omega
    · rw [List.filter_map]
      have : ((fun r : List Int => r.getD 0 0 == i) ∘ fun r => (j : Int) :: r) = fun _ => false := by
        funext r; simp [Function.comp]; omega
      rw [this, List.filter_eq_nil_iff.2 fun _ _ => by simp]; rfl
  | f :: s, y :: t, m + 1, b, i, hm, hl, h0, h1 => by
    rw [delL_succ, delL_succ, idxR, List.filter_flatMap, List.map_flatMap, offC_cons]
    refine flatMap_same fun j _ => ?_
    rw [List.filter_map, List.map_map]
    have e1 : ((fun r : List Int => r.getD (m + 1) 0 == i) ∘ fun r => (j : Int) :: r) = fun r => r.getD m 0 == i := by
      funext r; simp [Function.comp]
    have e2 : ((fun r : List Int => dotC b r (y :: t)) ∘ fun r => (j : Int) :: r) = fun r => dotC (b + (j : Int) * y) r t := by
      funext r; simp only [Function.comp, dotC]; rw [dotC_add]; omega
    rw [e1, e2, pick_fil s t m _ i (by simpa using hm) (by simpa using hl) h0 (by simpa using h1), ← offC_add]
    congr 1
    simp only [List.getD_cons_succ]; omega
/-- the cells of the indices with equal numbers at two places, in order -/
def diagC (b : Int) (s t : List Int) (A C : Nat) : List Int := ((idxR s).filter fun r => r.getD A 0 == r.getD C 0).map fun r => dotC b r t
theorem diag_fil : ∀ (s t : List Int) (A C : Nat) (b : Int), A < C → C < s.length → t.length = s.length → s.getD A 0 = s.getD C 0 →
    diagC b s t A C = offC b (delL s C) (delL (t.set A (t.getD A 0 + t.getD C 0)) C)
  | [], _, A, C, b, _, h, _, _ => by simp at h
  | f :: s, [], A, C, b, _, _, h, _ => by simp at h
  | f :: s, y :: t, A, 0, b, h, _, _, _ => by omega
  | f :: s, y :: t, 0, m + 1, b, _, hC, hl, he => by
    rw [List.set_cons_zero, delL_succ, delL_succ, offC_cons]
    unfold diagC
    rw [idxR, List.filter_flatMap, List.map_flatMap]
    refine flatMap_same fun i hi => ?_
    have hi := List.mem_range.1 hi
    rw [List.filter_map, List.map_map]
    have e1 : ((fun r : List Int => r.getD 0 0 == r.getD (m + 1) 0) ∘ fun r => (i : Int) :: r) = fun r => r.getD m 0 == (i : Int) := by
      funext r; simp only [Function.comp, List.getD_cons_zero, List.getD_cons_succ]; rw [Bool.eq_iff_iff]; simp only [beq_iff_eq]; exact ⟨Eq.symm, Eq.symm⟩
    have e2 : ((fun r : List Int => dotC b r (y :: t)) ∘ fun r => (i : Int) :: r) = fun r => dotC (b + (i : Int) * y) r t := by
      funext r; simp only [Function.comp, dotC]; rw [dotC_add]; omega
    have he : f = s.getD m 0 := by simpa using he
    rw [e1, e2, pick_fil s t m _ i (by simpa using hC) (by simpa using hl) (by omega) (by omega), ← offC_add]
    congr 1
    simp only [List.getD_cons_succ, List.getD_cons_zero, Int.mul_add]; omega
  | f :: s, y :: t, k + 1, m + 1, b, h, hC, hl, he => by
    rw [List.set_cons_succ, delL_succ, delL_succ, offC_cons]
    unfold diagC
    rw [idxR, List.filter_flatMap, List.map_flatMap]
    refine flatMap_same fun i hi => ?_
    rw [List.filter_map, List.map_map]
    have e1 : ((fun r : List Int => r.getD (k + 1) 0 == r.getD (m + 1) 0) ∘ fun r => (i : Int) :: r) = fun r => r.getD k 0 == r.getD m 0 := by
      funext r; simp only [Function.comp, List.getD_cons_succ]
    have e2 : ((fun r : List Int => dotC b r (y :: t)) ∘ fun r => (i : Int) :: r) = fun r => dotC (b + (i : Int) * y) r t := by
      funext r; simp only [Function.comp, dotC]; rw [dotC_add]; omega
    have ih := diag_fil s t k m (b + (i : Int) * y) (by omega) (by simpa using hC) (by simpa using hl) (by simpa using he)
    unfold diagC at ih
    rw [e1, e2, ih, ← offC_add]
    simp only [List.getD_cons_succ]
theorem diag_turn (b : Int) (s t : List Int) (A C : Nat) : diagC b s t A C = diagC b s t C A := by
  unfold diagC
  congr 2
  funext r; rw [Bool.eq_iff_iff]; simp only [beq_iff_eq]; exact ⟨Eq.symm, Eq.symm⟩
theorem erase_perm {α : Type} : ∀ (l : List α) (i : Nat) (h : i < l.length), (l[i] :: l.eraseIdx i).Perm l
  | [], i, h => by simp at h
  | a :: l, 0, _ => by simp
  | a :: l, i + 1, h => by
    rw [List.eraseIdx_cons_succ, List.getElem_cons_succ]
    exact (List.Perm.swap _ _ _).trans ((erase_perm l i (by simpa using h)).cons _)
theorem pair_perm {α : Type} (Z : List α) (A C : Nat) (y : α) (hA : A < Z.length) (hC : C < Z.length) (hne : A ≠ C) : ((Z.set A y).eraseIdx C).Perm ((Z.set C y).eraseIdx A) := by
  have key : ∀ A C : Nat, (hA : A < Z.length) → (hC : C < Z.length) → A ≠ C → (Z[A] :: Z[C] :: (Z.set A y).eraseIdx C).Perm (y :: Z) := by
    intro A C hA hC hne
    have h1 := erase_perm (Z.set A y) C (by simpa using hC)
    rw [List.getElem_set_ne (by omega)] at h1
    have h2 := erase_perm (Z.set A y) A (by simpa using hA)
    rw [List.getElem_set_self, List.eraseIdx_set_eq] at h2
    have h3 := erase_perm Z A hA
    exact (((h1.trans h2.symm).cons _).trans (List.Perm.swap _ _ _)).trans (h3.cons _)
  have h1 := key A C hA hC hne
  have h2 := key C A hC hA hne.symm
  exact ((h1.trans h2.symm).trans (List.Perm.swap _ _ _)).cons_inv.cons_inv
theorem del_erase (l : List Int) (i : Nat) : delL l i = l.eraseIdx i := by unfold delL; rw [List.eraseIdx_eq_take_drop_succ]
theorem zip_erase {α β : Type} : ∀ (l : List α) (m : List β) (i : Nat), (l.eraseIdx i).zip (m.eraseIdx i) = (l.zip m).eraseIdx i
  | [], m, i => by simp
  | a :: l, [], i => by simp
  | a :: l, c :: m, 0 => by simp
  | a :: l, c :: m, i + 1 => by simp [zip_erase l m i]
theorem zip_set (l m : List Int) (i : Nat) (x : Int) (hl : i < l.length) : l.zip (m.set i x) = (l.zip m).set i (l.getD i 0, x) := by
  refine List.ext_getElem (by simp) fun j h1 h2 => ?_
  simp only [List.getElem_zip, List.getElem_set]
  by_cases h : i = j
  · subst h; simp [hl]
  · simp [h]
theorem diag_perm {b : Int} {s t : List Int} {A C : Nat} (hne : A ≠ C) (hA : A < s.length) (hC : C < s.length) (hl : t.length = s.length) (he : s.getD A 0 = s.getD C 0) :
    (offC b (delL s C) (delL (t.set A (t.getD A 0 + t.getD C 0)) C)).Perm (diagC b s t A C) ∧ (A < C → offC b (delL s C) (delL (t.set A (t.getD A 0 + t.getD C 0)) C) = diagC b s t A C) := by
  rcases Nat.lt_or_ge A C with h | h
  · have := diag_fil s t A C b h hC hl he
    rw [this]; exact ⟨List.Perm.refl _, fun _ => rfl⟩
  · refine ⟨?_, fun h => by omega⟩
    rw [diag_turn, diag_fil s t C A b (by omega) hA hl he.symm]
    rw [offC_P _ _ _ (by rw [delL_len _ _ (by simpa [hl] using hC), delL_len _ _ hC, List.length_set, hl]), offC_P _ _ _ (by rw [delL_len _ _ (by simpa [hl] using hA), delL_len _ _ hA, List.length_set, hl])]
    refine offP_perm b ?_
    rw [del_erase, del_erase, del_erase, del_erase, zip_erase, zip_erase, zip_set _ _ _ _ hA, zip_set _ _ _ _ hC, he, Int.add_comm (t.getD C 0)]
    exact pair_perm _ A C _ (by simp; omega) (by simp; omega) hne
/-- the strides of a diagonal -/
def diaT (s t : List Int) (A C : Nat) : List Int := t.set A (if s.getD A 0 < 2 then 0 else t.getD A 0 + t.getD C 0)
def diaB (b : Int) (s t : List Int) (a c : Int) : Bool := viewB b s t && (inB 0 ((s.length : Int) - 1) a && (inB 0 ((s.length : Int) - 1) c && (!decide (a = c) && decide (s.getD a.toNat 0 = s.getD c.toNat 0))))
def diaV (b : Int) (s t : List Int) (a c : Int) : VBool :=
  if diaB b s t a c then (tidyB b (delL s c.toNat), delL s c.toNat, tidyT (delL s c.toNat) (delL (diaT s t a.toNat c.toNat) c.toNat), true) else noV
/-- what the first k indices add to the list of cells -/
def diaL (b : Int) (s t : List Int) (A C k : Nat) : List Int := ((List.range k).filter fun j : Nat => (unrL s (j : Int)).1.getD A 0 == (unrL s (j : Int)).1.getD C 0).map fun j : Nat => dotL b (unrL s (j : Int)).1 t
theorem diaL_succ (b : Int) (s t : List Int) (A C k : Nat) : diaL b s t A C (k+1) = if (unrL s (k : Int)).1.getD A 0 = (unrL s (k : Int)).1.getD C 0 then diaL b s t A C k ++ [dotL b (unrL s (k : Int)).1 t] else diaL b s t A C k := by
  unfold diaL
  rw [List.range_succ, List.filter_append, List.map_append]
  by_cases h : (unrL s (k : Int)).1.getD A 0 = (unrL s (k : Int)).1.getD C 0
  · rw [if_pos h, List.filter_cons_of_pos (by simpa using h)]; rfl
  · rw [if_neg h, List.filter_cons_of_neg (by simpa using h)]; simp
theorem diaL_len (b : Int) (s t : List Int) (A C k : Nat) : (diaL b s t A C k).length ≤ k := by
  unfold diaL
  rw [List.length_map]
  exact Nat.le_trans (List.length_filter_le _ _) (by simp)
theorem diaL_C {b : Int} {s t : List Int} (h : viewB b s t = true) (A C : Nat) : diaL b s t A C (countL s).toNat = diagC b s t A C := by
  have hs := view_small h
  obtain ⟨h1, h2, h3, h4⟩ := hs.count
  unfold diagC diaL
  by_cases hp : ∀ e ∈ s, 1 ≤ e
  · rw [← idx_eq s hp, List.filter_map, List.map_map, h1]
    refine List.map_congr_left fun k hk => ?_
    exact dot_ix h (ix_unr s hp k)
  · rw [idxR_none hp]
    have : countL s = 0 := by
      apply Classical.byContradiction
      intro hn
      exact hp (h4 (by omega))
    rw [this]; rfl
theorem diaB_in {b : Int} {s t : List Int} {a c : Int} (h : diaB b s t a c = true) : viewB b s t = true ∧ (0 ≤ a ∧ a < s.length) ∧ (0 ≤ c ∧ c < s.length) ∧ a ≠ c ∧ s.getD a.toNat 0 = s.getD c.toNat 0 := by
  unfold diaB inB at h
  simp only [Bool.and_eq_true, decide_eq_true_eq, Bool.not_eq_true', decide_eq_false_iff_not] at h
  exact ⟨h.1, by omega, by omega, h.2.2.2.1, h.2.2.2.2⟩
theorem set_mem {t : List Int} {i : Nat} {x y : Int} (h : y ∈ t.set i x) : y ∈ t ∨ y = x := List.mem_or_eq_of_mem_set h
/-- a diagonal is a view, with the cells of equal numbers -/
theorem dia_view {b : Int} {s t : List Int} {A C : Nat} (hv : viewB b s t = true) (hne : A ≠ C) (hA : A < s.length) (hC : C < s.length) (he : s.getD A 0 = s.getD C 0) :
    viewB (tidyB b (delL s C)) (delL s C) (tidyT (delL s C) (delL (diaT s t A C) C)) = true ∧
      (offsL (tidyB b (delL s C)) (delL s C) (tidyT (delL s C) (delL (diaT s t A C) C))).Perm (diaL b s t A C (countL s).toNat) ∧
      (A < C → offsL (tidyB b (delL s C)) (delL s C) (tidyT (delL s C) (delL (diaT s t A C) C)) = diaL b s t A C (countL s).toNat) := by
  obtain ⟨h1, h2, h3, h4, h5⟩ := viewB_in hv
  have hs := view_small hv
  have hds := del_small hs C hC
  have hAt : A < t.length := by omega
  have hCt : C < t.length := by omega
  obtain ⟨hc1, hc2, hc3, hc4⟩ := hs.count
  obtain ⟨hd1, hd2, hd3, hd4⟩ := hds.count
  have hdp := del_prod s C hC
  have heb := hs.2 _ (getD_mem hC)
  have hDl : (delL s C).length = s.length - 1 := delL_len _ _ hC
  have hTl : (delL (diaT s t A C) C).length = (delL s C).length := by rw [delL_len _ _ (by unfold diaT; simpa using hCt), hDl]; unfold diaT; rw [List.length_set, h2]
  have hc60 := (shapeB_in h1).2.2.2.1
  rw [diaL_C hv]
  by_cases hz : countL (delL s C) = 0
  · have hsh := shapeB_mk hds (by omega)
    unfold tidyB tidyT
    rw [if_pos hz, if_pos hz]
    refine ⟨zero_view hsh hz, ?_⟩
    have hn : diagC b s t A C = [] := by
      unfold diagC
      have : idxR s = [] := idxR_none fun hp => by
        have := prodL_pos (xs := delL s C) fun e he => hp e (delL_mem he)
        omega
      rw [this]; rfl
    rw [offs_none hz, hn]
    exact ⟨List.Perm.refl _, fun _ => rfl⟩
  · have hpos := hd4 (by omega)
    -- the extent itself is in what is left
    have hAm : s.getD A 0 ∈ delL s C := by
      unfold delL
      rcases Nat.lt_or_ge A C with g | g
      · refine List.mem_append_left _ (List.mem_iff_getElem.2 ⟨A, by simp; omega, by simp [hA]⟩)
      · refine List.mem_append_right _ (List.mem_iff_getElem.2 ⟨A - (C + 1), by simp; omega, ?_⟩)
        rw [List.getElem_drop, List.getD_eq_getElem?_getD, List.getElem?_eq_getElem hA, Option.getD_some]
        congr 1; omega
    have he1 := hpos _ hAm
    have hcs : countL s ≠ 0 := by
      rw [hc1, hdp, ← he]
      intro h0
      rcases Int.mul_eq_zero.1 h0 with g | g <;> omega
    have hps := hc4 (by omega)
    have hle : countL (delL s C) ≤ countL s := by
      rw [hc1, hd1, hdp]
      have := Int.mul_le_mul_of_nonneg_right (show 1 ≤ s.getD C 0 by omega) (show 0 ≤ prodL (delL s C) by omega)
      omega
    have hsh := shapeB_mk hds (by omega)
    unfold tidyB tidyT
    rw [if_neg hz, if_neg hz]
    obtain ⟨p1, p2⟩ := diag_perm (b := b) hne hA hC h2 he
    -- the stride of an extent of one does not matter
    have hoff : offC b (delL s C) (delL (diaT s t A C) C) = offC b (delL s C) (delL (t.set A (t.getD A 0 + t.getD C 0)) C) := by
      unfold diaT
      by_cases h6 : s.getD A 0 < 2
      · rw [if_pos h6]
        have hm : ∀ x : Int, (delL (t.set A x) C).length = (delL s C).length := fun x => by rw [delL_len _ _ (by simpa using hCt), hDl, List.length_set, h2]
        rw [← mask_off _ _ _ (hm 0), ← mask_off _ _ _ (hm (t.getD A 0 + t.getD C 0))]
        congr 1
        refine ext_getD (by rw [maskR_len _ _ (hm _), maskR_len _ _ (hm _)]) fun i hi => ?_
        rw [maskR_len _ _ (hm _)] at hi
        rw [maskR_get _ _ _ (hm _) hi, maskR_get _ _ _ (hm _) hi]
        by_cases h7 : 1 < (delL s C).getD i 0
        · rw [if_pos h7, if_pos h7]
          -- i is not A's place
          have hget : ∀ (l : List Int) (i : Nat), (delL l C).getD i 0 = if i < C then l.getD i 0 else l.getD (i+1) 0 := fun l i => by
            rw [del_erase, List.getD_eq_getElem?_getD, List.getElem?_eraseIdx]
            split <;> rw [List.getD_eq_getElem?_getD]
          rw [hget] at h7 ⊢
          rw [hget]
          split
          · rename_i hlt
            rw [if_pos hlt] at h7
            have : A ≠ i := by rintro rfl; omega
            rw [getD_set, getD_set, if_neg (by omega), if_neg (by omega)]
          · rename_i hlt
            rw [if_neg hlt] at h7
            have : A ≠ i + 1 := by rintro rfl; omega
            rw [getD_set, getD_set, if_neg (by omega), if_neg (by omega)]
        · rw [if_neg h7, if_neg h7]
      · rw [if_neg h6]
    have hin : ∀ y ∈ offC b (delL s C) (delL (diaT s t A C) C), 0 ≤ y ∧ y ≤ 59 := by
      intro y hy
      rw [hoff] at hy
      have hy := p1.mem_iff.1 hy
      unfold diagC at hy
      obtain ⟨r, hr, rfl⟩ := List.mem_map.1 hy
      have hr := (List.mem_filter.1 hr).1
      exact h5 _ (by rw [view_C hv]; unfold offC; exact List.mem_map.2 ⟨r, hr, rfl⟩)
    have hst : ∀ x ∈ diaT s t A C, -60 ≤ x ∧ x ≤ 60 := by
      intro x hx
      unfold diaT at hx
      rcases set_mem hx with g | rfl
      · exact h4 x g
      · by_cases h6 : s.getD A 0 < 2
        · rw [if_pos h6]; omega
        · rw [if_neg h6]
          -- the cell one step along the diagonal
          have hb := h5 b (by rw [view_C hv]; exact off_zero b hps)
          have hAp : ∃ i, i < (delL s C).length ∧ (delL s C).getD i 0 = s.getD A 0 ∧ (delL (t.set A (t.getD A 0 + t.getD C 0)) C).getD i 0 = t.getD A 0 + t.getD C 0 := by
            have hget : ∀ (l : List Int) (i : Nat), (delL l C).getD i 0 = if i < C then l.getD i 0 else l.getD (i+1) 0 := fun l i => by
              rw [del_erase, List.getD_eq_getElem?_getD, List.getElem?_eraseIdx]
              split <;> rw [List.getD_eq_getElem?_getD]
            rcases Nat.lt_or_ge A C with g | g
            · refine ⟨A, by omega, ?_, ?_⟩
              · rw [hget, if_pos g]
              · rw [hget, if_pos g, getD_set, if_pos ⟨rfl, hAt⟩]
            · refine ⟨A - 1, by omega, ?_, ?_⟩
              · rw [hget, if_neg (by omega)]; congr 1; omega
              · rw [hget, if_neg (by omega), getD_set, if_pos ⟨by omega, by omega⟩]
          obtain ⟨i, hi, hi1, hi2⟩ := hAp
          have hu := off_unit b hpos (by rw [delL_len _ _ (by simpa using hCt), hDl, List.length_set, h2]) i hi (by rw [hi1]; omega) (t := delL (t.set A (t.getD A 0 + t.getD C 0)) C)
          rw [hi2, ← hoff] at hu
          have := hin _ hu
          omega
    have hmild : Mild b (delL (diaT s t A C) C) := ⟨by omega, fun x hx => by have := hst x (delL_mem hx); omega⟩
    have hoC := offs_C (b := b) hds hmild
    rw [hoC]
    refine ⟨viewB_mk hsh hTl h3 (fun x hx => hst x (delL_mem hx)) (by rw [hoC]; exact hin), ?_⟩
    rw [hoff]
    exact ⟨p1, p2⟩
theorem dia_no {b : Int} {s t : List Int} {a c : Int} (h : diaB b s t a c = false) : diaV b s t a c = noV := by unfold diaV; rw [h]; rfl
theorem dia_yes {b : Int} {s t : List Int} {A C : Nat} (h : diaB b s t (A : Int) (C : Int) = true) : diaV b s t (A : Int) (C : Int) = (tidyB b (delL s C), delL s C, tidyT (delL s C) (delL (diaT s t A C) C), true) := by
  unfold diaV; rw [h]; rfl
theorem dia_law {b : Int} {s t : List Int} {a c : Int} {PB : Int} {PS PT : List Int} (h : diaV b s t a c = (PB, PS, PT, true)) :
    ∃ A C : Nat, a = (A : Int) ∧ c = (C : Int) ∧ A ≠ C ∧ A < s.length ∧ C < s.length ∧ viewB b s t = true ∧ viewB PB PS PT = true ∧
      (offsL PB PS PT).Perm (diaL b s t A C (countL s).toNat) ∧ (A < C → offsL PB PS PT = diaL b s t A C (countL s).toNat) := by
  cases hB : diaB b s t a c with
  | false => rw [dia_no hB] at h; unfold noV at h; cases h
  | true =>
    obtain ⟨hv, ha, hc, hne, he⟩ := diaB_in hB
    obtain ⟨A, rfl⟩ : ∃ A : Nat, a = A := ⟨a.toNat, by omega⟩
    obtain ⟨C, rfl⟩ : ∃ C : Nat, c = C := ⟨c.toNat, by omega⟩
    rw [dia_yes hB] at h
    cases h
    have := dia_view hv (A := A) (C := C) (by omega) (by omega) (by omega) (by simpa using he)
    exact ⟨A, C, rfl, rfl, by omega, by omega, by omega, hv, this⟩
end Go.Proofs.Ytonnnjaooifpjaa

/- Walks: DiagonalOf of the program. -/
namespace Go.Proofs.Ytonnnjaooifpjaa
open Go.RowKit
set_option linter.unusedVariables false
set_option maxRecDepth 100000


theorem dia_no1 {b : Int} {s t : List Int} {a c : Int} (h : dimB b s t a = false) : diaV b s t a c = noV := dia_no (by
 unfold dimB at h; unfold diaB
 cases hv : viewB b s t with
 | false => rfl
 | true => rw [hv] at h; simp only [Bool.true_and] at h; rw [h]; rfl)
theorem dia_no2 {b : Int} {s t : List Int} {a c : Int} (h : dimB b s t c = false) : diaV b s t a c = noV := dia_no (by
 unfold dimB at h; unfold diaB
 cases hv : viewB b s t with
 | false => rfl
 | true => rw [hv] at h; simp only [Bool.true_and] at h; rw [h]; simp)
theorem dia_no3 {b : Int} {s t : List Int} {a c : Int} (h : a = c) : diaV b s t a c = noV := dia_no (by unfold diaB; rw [decide_eq_true h]; simp)
theorem dia_no4 {b : Int} {s t : List Int} {A C : Nat} {x y : Int} (hx : s.getD A 0 = x) (hy : s.getD C 0 = y) (h : ¬ x = y) : diaV b s t (A : Int) (C : Int) = noV := dia_no (by
 unfold diaB; rw [Int.toNat_natCast, Int.toNat_natCast, hx, hy, decide_eq_false h]; simp)
theorem dia_ok {b : Int} {s t : List Int} {A C : Nat} {x y : Int} (hA : dimB b s t (A : Int) = true) (hC : dimB b s t (C : Int) = true) (hne : ¬ (A : Int) = (C : Int)) (hx : s.getD A 0 = x) (hy : s.getD C 0 = y) (h : x = y) : diaB b s t (A : Int) (C : Int) = true := by
 unfold dimB at hA hC
 rw [Bool.and_eq_true] at hA hC
 unfold diaB
 rw [hA.1, hA.2, hC.2, decide_eq_false hne, Int.toNat_natCast, Int.toNat_natCast, hx, hy, decide_eq_true h]; rfl
/-- strides along a diagonal add up to a step within memory -/
theorem dia_bd {t : List Int} {i : Nat} (h : ∀ x ∈ t, -60 ≤ x ∧ x ≤ 60) (hi : i < t.length) : -60 ≤ t.getD i 0 ∧ t.getD i 0 ≤ 60 := h _ (getD_mem hi)

set_option maxHeartbeats 6400000 in
theorem implDia_0 (b1 : Int) (u1 v1 : Value) (s1 t1 : List Int) (d f : Int) (w : World) (l1 m1 : Nat) (h1 : Ints w l1 u1 s1) (k1 : Ints w m1 v1 t1) (hdim : dimB b1 s1 t1 d = false) :
  Calls Try.prog 64 #[.agg #[.int .i64 b1, u1, v1], .int .i64 d, .int .i64 f] w (PVX w (diaV b1 s1 t1 d f)) := by
 obtain ⟨p0, c0, rfl⟩ := h1.form
 obtain ⟨p1, c1, rfl⟩ := k1.form
 replace hdim := Lib.hid hdim
 go_enter Try.func64, Try.ntmps64
 go_wp2_with fail
 generalize hW1 : (w.alloc (.cells #[.int .i64 b1, .slice p0 s1.length c0, .slice p1 t1.length c1] 25)).alloc (.cells #[.int .i64 0, .slice none 0 0, .slice none 0 0] 25) = w1 at *
 have Lw1 : Ext w w1 := by subst hW1; exact qXt
 have Xw1 : Ext w w1 := by subst hW1; exact Lw1
 have b10 : w1.cell? ⟨w.heap.size, 0, none⟩ = some (.int .i64 b1) := by subst hW1; exact qCl
 have b11 : w1.cell? ⟨w.heap.size, 1, none⟩ = some (.slice p0 s1.length c0) := by subst hW1; exact qCl
 have b12 : w1.cell? ⟨w.heap.size, 2, none⟩ = some (.slice p1 t1.length c1) := by subst hW1; exact qCl
 have b20 : w1.cell? ⟨w.heap.size + 1, 0, none⟩ = some (.int .i64 0) := by subst hW1; exact qCl
 have b21 : w1.cell? ⟨w.heap.size + 1, 1, none⟩ = some (.slice none 0 0) := by subst hW1; exact qCl
 have b22 : w1.cell? ⟨w.heap.size + 1, 2, none⟩ = some (.slice none 0 0) := by subst hW1; exact qCl
 have f_b20 : w1.frozen? ⟨w.heap.size + 1, 0, none⟩ = false := by subst hW1; exact qFz
 have f_b21 : w1.frozen? ⟨w.heap.size + 1, 1, none⟩ = false := by subst hW1; exact qFz
 have f_b22 : w1.frozen? ⟨w.heap.size + 1, 2, none⟩ = false := by subst hW1; exact qFz
 have z_b1 : w.heap.size < w1.heap.size := qB b10
 have z_b2 : w.heap.size + 1 < w1.heap.size := qB b20
 have s_w1 : w.heap.size ≤ w1.heap.size := Xw1.size
 clear hW1
 refine wp_region_tail (S := fun w' => w'.cell? ⟨w.heap.size, 0, none⟩ = some (.int .i64 b1) ∧ w'.cell? ⟨w.heap.size, 1, none⟩ = some (.slice p0 s1.length c0) ∧ w'.cell? ⟨w.heap.size, 2, none⟩ = some (.slice p1 t1.length c1)) (fun i => decide (28 ≤ i)) qKr ⟨b10, b11, b12⟩ (fun hHeld => ?_)
 refine qTk (v := ?_) 0 rfl (.inl ⟨by rfl, ?_⟩) ?_
 rotate_left
 ·
  (intro w hSw; (try dsimp only at hSw); go_simp; try with_reducible rfl)
 try simp only [Act.put, qa, qb, qc, qD, qE, qF]
 refine qTk (v := ?_) 1 rfl (.inl ⟨by rfl, ?_⟩) ?_
 rotate_left
 ·
  (intro w hSw; (try dsimp only at hSw); go_simp; try with_reducible rfl)
 try simp only [Act.put, qa, qb, qc, qD, qE, qF]
 refine wpTail_one (i := 2) qKr rfl rfl (fun K hK => ?_)
 try simp only [Act.put, qa, qb, qc, qD, qE, qF]
 go_simp
 refine (hasDim_c b1 (.slice p0 s1.length c0) (.slice p1 t1.length c1) s1 t1 d _ _ _ (h1.ext (Xw1.trans qXt)) (k1.ext (Xw1.trans qXt))).mono ?_
 rintro e w2 ⟨rfl, xw2⟩
 have Lw2 : Ext w1 w2 := Ext.trans qXt xw2
 have Xw2 : Ext w w2 := Xw1.trans Lw2
 replace b10 := Lw2.cell b10
 replace b11 := Lw2.cell b11
 replace b12 := Lw2.cell b12
 replace b20 := Lw2.cell b20
 replace b21 := Lw2.cell b21
 replace b22 := Lw2.cell b22
 replace f_b20 := Lw2.frz z_b2 f_b20
 replace f_b21 := Lw2.frz z_b2 f_b21
 replace f_b22 := Lw2.frz z_b2 f_b22
 have z_b1 : w.heap.size < w2.heap.size := qB b10
 have z_b2 : w.heap.size + 1 < w2.heap.size := qB b20
 have s_w2 : w.heap.size ≤ w2.heap.size := Xw2.size
 clear xw2
 rw [hdim.out]
 refine hK.out _ _ ⟨b10, b11, b12⟩ (fun hHeld => ?_)
 clear hK K
 try simp only [Act.put, qa, qb, qc, qD, qE, qF]
 refine qTk (v := ?_) 3 rfl (.inl ⟨by rfl, ?_⟩) ?_
 rotate_left
 ·
  (intro w hSw; (try dsimp only at hSw); go_simp; try with_reducible rfl)
 try simp only [Act.put, qa, qb, qc, qD, qE, qF]
 refine qTk (v := ?_) 4 rfl (.inl ⟨by rfl, ?_⟩) ?_
 rotate_left
 ·
  (intro w hSw; (try dsimp only at hSw); go_simp; try with_reducible rfl)
 try simp only [Act.put, qa, qb, qc, qD, qE, qF]
 refine qTs 5 rfl (.inr ⟨by rfl, rfl⟩) ?_
 try simp only [Act.put, qa, qb, qc, qD, qE, qF]
 refine qTs 6 rfl (.inr ⟨by rfl, rfl⟩) ?_
 try simp only [Act.put, qa, qb, qc, qD, qE, qF]
 refine qTs 7 rfl (.inr ⟨by rfl, rfl⟩) ?_
 try simp only [Act.put, qa, qb, qc, qD, qE, qF]
 refine qTs 8 rfl (.inr ⟨by rfl, rfl⟩) ?_
 try simp only [Act.put, qa, qb, qc, qD, qE, qF]
 refine qTk (v := ?_) 9 rfl (.inl ⟨by rfl, ?_⟩) ?_
 rotate_left
 ·
  (intro w hSw; (try dsimp only at hSw); go_simp; try with_reducible rfl)
 try simp only [Act.put, qa, qb, qc, qD, qE, qF]
 refine qTk (v := ?_) 10 rfl (.inl ⟨by rfl, ?_⟩) ?_
 rotate_left
 ·
  (intro w hSw; (try dsimp only at hSw); go_simp; try with_reducible rfl)
 try simp only [Act.put, qa, qb, qc, qD, qE, qF]
 refine qTs 11 rfl (.inr ⟨by rfl, rfl⟩) ?_
 try simp only [Act.put, qa, qb, qc, qD, qE, qF]
 refine qTs 12 rfl (.inr ⟨by rfl, rfl⟩) ?_
 try simp only [Act.put, qa, qb, qc, qD, qE, qF]
 refine qTs 13 rfl (.inr ⟨by rfl, rfl⟩) ?_
 try simp only [Act.put, qa, qb, qc, qD, qE, qF]
 refine qTk (v := ?_) 14 rfl (.inl ⟨by rfl, ?_⟩) ?_
 rotate_left
 ·
  (intro w hSw; (try dsimp only at hSw); go_simp; try with_reducible rfl)
 try simp only [Act.put, qa, qb, qc, qD, qE, qF]
 refine qTk (v := ?_) 15 rfl (.inl ⟨by rfl, ?_⟩) ?_
 rotate_left
 ·
  (intro w hSw; (try dsimp only at hSw); go_simp; try with_reducible rfl)
 try simp only [Act.put, qa, qb, qc, qD, qE, qF]
 refine qTs 16 rfl (.inr ⟨by rfl, rfl⟩) ?_
 try simp only [Act.put, qa, qb, qc, qD, qE, qF]
 refine qTs 17 rfl (.inr ⟨by rfl, rfl⟩) ?_
 try simp only [Act.put, qa, qb, qc, qD, qE, qF]
 refine qTs 18 rfl (.inr ⟨by rfl, rfl⟩) ?_
 try simp only [Act.put, qa, qb, qc, qD, qE, qF]
 refine qTs 19 rfl (.inr ⟨by rfl, rfl⟩) ?_
 try simp only [Act.put, qa, qb, qc, qD, qE, qF]
 refine qTs 20 rfl (.inr ⟨by rfl, rfl⟩) ?_
 try simp only [Act.put, qa, qb, qc, qD, qE, qF]
 refine qTs 21 rfl (.inr ⟨by rfl, rfl⟩) ?_
 try simp only [Act.put, qa, qb, qc, qD, qE, qF]
 refine qTs 22 rfl (.inr ⟨by rfl, rfl⟩) ?_
 try simp only [Act.put, qa, qb, qc, qD, qE, qF]
 refine qTs 23 rfl (.inr ⟨by rfl, rfl⟩) ?_
 try simp only [Act.put, qa, qb, qc, qD, qE, qF]
 refine qTs 24 rfl (.inr ⟨by rfl, rfl⟩) ?_
 try simp only [Act.put, qa, qb, qc, qD, qE, qF]
 refine qTs 25 rfl (.inr ⟨by rfl, rfl⟩) ?_
 try simp only [Act.put, qa, qb, qc, qD, qE, qF]
 refine qTs 26 rfl (.inr ⟨by rfl, rfl⟩) ?_
 try simp only [Act.put, qa, qb, qc, qD, qE, qF]
 refine qTk (v := ?_) 27 rfl (.inl ⟨by rfl, ?_⟩) ?_
 rotate_left
 ·
  (intro w hSw; (try dsimp only at hSw); go_simp; try with_reducible rfl)
 try simp only [Act.put, qa, qb, qc, qD, qE, qF]
 refine wpTail_done qKr ?_ _
 clear hHeld 
 go_wp2_with fail
 generalize hW2 : (((w2.setCell ⟨w.heap.size + 1, 0, none⟩ (.int .i64 0)).setCell ⟨w.heap.size + 1, 1, none⟩ (.slice none 0 0)).setCell ⟨w.heap.size + 1, 2, none⟩ (.slice none 0 0)) = w3 at *
 have Kw3 : Chg (w.heap.size + 1) (w.heap.size + 1 + 1) w2 w3 := by subst hW2; exact qCh
 have Xw3 : Ext w w3 := by subst hW2; exact qXt
 replace b10 := Kw3.cell (by omega) b10
 replace b11 := Kw3.cell (by omega) b11
 replace b12 := Kw3.cell (by omega) b12
 replace b20 : w3.cell? ⟨w.heap.size + 1, 0, none⟩ = some (.int .i64 0) := by subst hW2; go_simp
 replace f_b20 : w3.frozen? ⟨w.heap.size + 1, 0, none⟩ = false := by subst hW2; first | (simp only [World.frozen?_setCell]; with_reducible assumption) | go_simp
 replace b21 : w3.cell? ⟨w.heap.size + 1, 1, none⟩ = some (.slice none 0 0) := by subst hW2; go_simp
 replace f_b21 : w3.frozen? ⟨w.heap.size + 1, 1, none⟩ = false := by subst hW2; first | (simp only [World.frozen?_setCell]; with_reducible assumption) | go_simp
 replace b22 : w3.cell? ⟨w.heap.size + 1, 2, none⟩ = some (.slice none 0 0) := by subst hW2; go_simp
 replace f_b22 : w3.frozen? ⟨w.heap.size + 1, 2, none⟩ = false := by subst hW2; first | (simp only [World.frozen?_setCell]; with_reducible assumption) | go_simp
 clear Kw3
 have z_b1 : w.heap.size < w3.heap.size := qB b10
 have z_b2 : w.heap.size + 1 < w3.heap.size := qB b20
 have s_w3 : w.heap.size ≤ w3.heap.size := Xw3.size
 clear hW2
 refine bodyPost_ret (v := .tuple #[.agg #[.int .i64 0, .slice none 0 0, .slice none 0 0], .bool false]) (by simp only [results, Try.results64]; go_simp) rfl ?_
 rw [show diaV b1 s1 t1 d f = noV from dia_no1 hdim.out]
 exact PVWB.no (Xw3.trans qXt)

set_option maxHeartbeats 6400000 in
theorem implDia_1 (b1 : Int) (u1 v1 : Value) (s1 t1 : List Int) (D : Nat) (f : Int) (w : World) (l1 m1 : Nat) (h1 : Ints w l1 u1 s1) (k1 : Ints w m1 v1 t1) (hdim : dimB b1 s1 t1 (D : Int) = true) (hdim2 : dimB b1 s1 t1 f = false) :
  Calls Try.prog 64 #[.agg #[.int .i64 b1, u1, v1], .int .i64 (D : Int), .int .i64 f] w (PVX w (diaV b1 s1 t1 (D : Int) f)) := by
 obtain ⟨p0, c0, rfl⟩ := h1.form
 obtain ⟨p1, c1, rfl⟩ := k1.form
 replace hdim := Lib.hid hdim
 replace hdim2 := Lib.hid hdim2
 go_enter Try.func64, Try.ntmps64
 go_wp2_with fail
 generalize hW3 : (w.alloc (.cells #[.int .i64 b1, .slice p0 s1.length c0, .slice p1 t1.length c1] 25)).alloc (.cells #[.int .i64 0, .slice none 0 0, .slice none 0 0] 25) = w1 at *
 have Lw1 : Ext w w1 := by subst hW3; exact qXt
 have Xw1 : Ext w w1 := by subst hW3; exact Lw1
 have b10 : w1.cell? ⟨w.heap.size, 0, none⟩ = some (.int .i64 b1) := by subst hW3; exact qCl
 have b11 : w1.cell? ⟨w.heap.size, 1, none⟩ = some (.slice p0 s1.length c0) := by subst hW3; exact qCl
 have b12 : w1.cell? ⟨w.heap.size, 2, none⟩ = some (.slice p1 t1.length c1) := by subst hW3; exact qCl
 have b20 : w1.cell? ⟨w.heap.size + 1, 0, none⟩ = some (.int .i64 0) := by subst hW3; exact qCl
 have b21 : w1.cell? ⟨w.heap.size + 1, 1, none⟩ = some (.slice none 0 0) := by subst hW3; exact qCl
 have b22 : w1.cell? ⟨w.heap.size + 1, 2, none⟩ = some (.slice none 0 0) := by subst hW3; exact qCl
 have f_b20 : w1.frozen? ⟨w.heap.size + 1, 0, none⟩ = false := by subst hW3; exact qFz
 have f_b21 : w1.frozen? ⟨w.heap.size + 1, 1, none⟩ = false := by subst hW3; exact qFz
 have f_b22 : w1.frozen? ⟨w.heap.size + 1, 2, none⟩ = false := by subst hW3; exact qFz
 have z_b1 : w.heap.size < w1.heap.size := qB b10
 have z_b2 : w.heap.size + 1 < w1.heap.size := qB b20
 have s_w1 : w.heap.size ≤ w1.heap.size := Xw1.size
 clear hW3
 refine wp_region_tail (S := fun w' => w'.cell? ⟨w.heap.size, 0, none⟩ = some (.int .i64 b1) ∧ w'.cell? ⟨w.heap.size, 1, none⟩ = some (.slice p0 s1.length c0) ∧ w'.cell? ⟨w.heap.size, 2, none⟩ = some (.slice p1 t1.length c1)) (fun i => decide (28 ≤ i)) qKr ⟨b10, b11, b12⟩ (fun hHeld => ?_)
 refine qTk (v := ?_) 0 rfl (.inl ⟨by rfl, ?_⟩) ?_
 rotate_left
 ·
  (intro w hSw; (try dsimp only at hSw); go_simp; try with_reducible rfl)
 try simp only [Act.put, qa, qb, qc, qD, qE, qF]
 refine qTk (v := ?_) 1 rfl (.inl ⟨by rfl, ?_⟩) ?_
 rotate_left
 ·
  (intro w hSw; (try dsimp only at hSw); go_simp; try with_reducible rfl)
 try simp only [Act.put, qa, qb, qc, qD, qE, qF]
 refine wpTail_one (i := 2) qKr rfl rfl (fun K hK => ?_)
 try simp only [Act.put, qa, qb, qc, qD, qE, qF]
 go_simp
 refine (hasDim_c b1 (.slice p0 s1.length c0) (.slice p1 t1.length c1) s1 t1 (D : Int) _ _ _ (h1.ext (Xw1.trans qXt)) (k1.ext (Xw1.trans qXt))).mono ?_
 rintro e w2 ⟨rfl, xw2⟩
 have Lw2 : Ext w1 w2 := Ext.trans qXt xw2
 have Xw2 : Ext w w2 := Xw1.trans Lw2
 replace b10 := Lw2.cell b10
 replace b11 := Lw2.cell b11
 replace b12 := Lw2.cell b12
 replace b20 := Lw2.cell b20
 replace b21 := Lw2.cell b21
 replace b22 := Lw2.cell b22
 replace f_b20 := Lw2.frz z_b2 f_b20
 replace f_b21 := Lw2.frz z_b2 f_b21
 replace f_b22 := Lw2.frz z_b2 f_b22
 have z_b1 : w.heap.size < w2.heap.size := qB b10
 have z_b2 : w.heap.size + 1 < w2.heap.size := qB b20
 have s_w2 : w.heap.size ≤ w2.heap.size := Xw2.size
 clear xw2
 rw [hdim.out]
 refine hK.out _ _ ⟨b10, b11, b12⟩ (fun hHeld => ?_)
 clear hK K
 try simp only [Act.put, qa, qb, qc, qD, qE, qF]
 refine qTk (v := ?_) 3 rfl (.inl ⟨by rfl, ?_⟩) ?_
 rotate_left
 ·
  (intro w hSw; (try dsimp only at hSw); go_simp; try with_reducible rfl)
 try simp only [Act.put, qa, qb, qc, qD, qE, qF]
 refine qTk (v := ?_) 4 rfl (.inl ⟨by rfl, ?_⟩) ?_
 rotate_left
 ·
  (intro w hSw; (try dsimp only at hSw); go_simp; try with_reducible rfl)
 try simp only [Act.put, qa, qb, qc, qD, qE, qF]
 refine qTk (v := ?_) 5 rfl (.inl ⟨by rfl, ?_⟩) ?_
 rotate_left
 ·
  (intro w hSw; (try dsimp only at hSw); go_simp; try with_reducible rfl)
 try simp only [Act.put, qa, qb, qc, qD, qE, qF]
 refine qTk (v := ?_) 6 rfl (.inl ⟨by rfl, ?_⟩) ?_
 rotate_left
 ·
  (intro w hSw; (try dsimp only at hSw); go_simp; try with_reducible rfl)
 try simp only [Act.put, qa, qb, qc, qD, qE, qF]
 refine wpTail_one (i := 7) qKr rfl rfl (fun K hK => ?_)
 try simp only [Act.put, qa, qb, qc, qD, qE, qF]
 go_simp
 refine (hasDim_c b1 (.slice p0 s1.length c0) (.slice p1 t1.length c1) s1 t1 f _ _ _ (h1.ext (Xw2.trans qXt)) (k1.ext (Xw2.trans qXt))).mono ?_
 rintro e w3 ⟨rfl, xw3⟩
 have Lw3 : Ext w2 w3 := Ext.trans qXt xw3
 have Xw3 : Ext w w3 := Xw2.trans Lw3
 replace b10 := Lw3.cell b10
 replace b11 := Lw3.cell b11
 replace b12 := Lw3.cell b12
 replace b20 := Lw3.cell b20
 replace b21 := Lw3.cell b21
 replace b22 := Lw3.cell b22
 replace f_b20 := Lw3.frz z_b2 f_b20
 replace f_b21 := Lw3.frz z_b2 f_b21
 replace f_b22 := Lw3.frz z_b2 f_b22
 have z_b1 : w.heap.size < w3.heap.size := qB b10
 have z_b2 : w.heap.size + 1 < w3.heap.size := qB b20
 have s_w3 : w.heap.size ≤ w3.heap.size := Xw3.size
 clear xw3
 rw [hdim2.out]
 refine hK.out _ _ ⟨b10, b11, b12⟩ (fun hHeld => ?_)
 clear hK K
 try simp only [Act.put, qa, qb, qc, qD, qE, qF]
 refine qTk (v := ?_) 8 rfl (.inl ⟨by rfl, ?_⟩) ?_
 rotate_left
 ·
  (intro w hSw; (try dsimp only at hSw); go_simp; try with_reducible rfl)
 try simp only [Act.put, qa, qb, qc, qD, qE, qF]
 refine qTk (v := ?_) 9 rfl (.inl ⟨by rfl, ?_⟩) ?_
 rotate_left
 ·
  (intro w hSw; (try dsimp only at hSw); go_simp; try with_reducible rfl)
 try simp only [Act.put, qa, qb, qc, qD, qE, qF]
 refine qTk (v := ?_) 10 rfl (.inl ⟨by rfl, ?_⟩) ?_
 rotate_left
 ·
  (intro w hSw; (try dsimp only at hSw); go_simp; try with_reducible rfl)
 try simp only [Act.put, qa, qb, qc, qD, qE, qF]
 refine qTs 11 rfl (.inr ⟨by rfl, rfl⟩) ?_
 try simp only [Act.put, qa, qb, qc, qD, qE, qF]
 refine qTs 12 rfl (.inr ⟨by rfl, rfl⟩) ?_
 try simp only [Act.put, qa, qb, qc, qD, qE, qF]
 refine qTs 13 rfl (.inr ⟨by rfl, rfl⟩) ?_
 try simp only [Act.put, qa, qb, qc, qD, qE, qF]
 refine qTk (v := ?_) 14 rfl (.inl ⟨by rfl, ?_⟩) ?_
 rotate_left
 ·
  (intro w hSw; (try dsimp only at hSw); go_simp; try with_reducible rfl)
 try simp only [Act.put, qa, qb, qc, qD, qE, qF]
 refine qTk (v := ?_) 15 rfl (.inl ⟨by rfl, ?_⟩) ?_
 rotate_left
 ·
  (intro w hSw; (try dsimp only at hSw); go_simp; try with_reducible rfl)
 try simp only [Act.put, qa, qb, qc, qD, qE, qF]
 refine qTs 16 rfl (.inr ⟨by rfl, rfl⟩) ?_
 try simp only [Act.put, qa, qb, qc, qD, qE, qF]
 refine qTs 17 rfl (.inr ⟨by rfl, rfl⟩) ?_
 try simp only [Act.put, qa, qb, qc, qD, qE, qF]
 refine qTs 18 rfl (.inr ⟨by rfl, rfl⟩) ?_
 try simp only [Act.put, qa, qb, qc, qD, qE, qF]
 refine qTs 19 rfl (.inr ⟨by rfl, rfl⟩) ?_
 try simp only [Act.put, qa, qb, qc, qD, qE, qF]
 refine qTs 20 rfl (.inr ⟨by rfl, rfl⟩) ?_
 try simp only [Act.put, qa, qb, qc, qD, qE, qF]
 refine qTs 21 rfl (.inr ⟨by rfl, rfl⟩) ?_
 try simp only [Act.put, qa, qb, qc, qD, qE, qF]
 refine qTs 22 rfl (.inr ⟨by rfl, rfl⟩) ?_
 try simp only [Act.put, qa, qb, qc, qD, qE, qF]
 refine qTs 23 rfl (.inr ⟨by rfl, rfl⟩) ?_
 try simp only [Act.put, qa, qb, qc, qD, qE, qF]
 refine qTs 24 rfl (.inr ⟨by rfl, rfl⟩) ?_
 try simp only [Act.put, qa, qb, qc, qD, qE, qF]
 refine qTs 25 rfl (.inr ⟨by rfl, rfl⟩) ?_
 try simp only [Act.put, qa, qb, qc, qD, qE, qF]
 refine qTs 26 rfl (.inr ⟨by rfl, rfl⟩) ?_
 try simp only [Act.put, qa, qb, qc, qD, qE, qF]
 refine qTk (v := ?_) 27 rfl (.inl ⟨by rfl, ?_⟩) ?_
 rotate_left
 ·
  (intro w hSw; (try dsimp only at hSw); go_simp; try with_reducible rfl)
 try simp only [Act.put, qa, qb, qc, qD, qE, qF]
 refine wpTail_done qKr ?_ _
 clear hHeld 
 go_wp2_with fail
 generalize hW4 : (((w3.setCell ⟨w.heap.size + 1, 0, none⟩ (.int .i64 0)).setCell ⟨w.heap.size + 1, 1, none⟩ (.slice none 0 0)).setCell ⟨w.heap.size + 1, 2, none⟩ (.slice none 0 0)) = w4 at *
 have Kw4 : Chg (w.heap.size + 1) (w.heap.size + 1 + 1) w3 w4 := by subst hW4; exact qCh
 have Xw4 : Ext w w4 := by subst hW4; exact qXt
 replace b10 := Kw4.cell (by omega) b10
 replace b11 := Kw4.cell (by omega) b11
 replace b12 := Kw4.cell (by omega) b12
 replace b20 : w4.cell? ⟨w.heap.size + 1, 0, none⟩ = some (.int .i64 0) := by subst hW4; go_simp
 replace f_b20 : w4.frozen? ⟨w.heap.size + 1, 0, none⟩ = false := by subst hW4; first | (simp only [World.frozen?_setCell]; with_reducible assumption) | go_simp
 replace b21 : w4.cell? ⟨w.heap.size + 1, 1, none⟩ = some (.slice none 0 0) := by subst hW4; go_simp
 replace f_b21 : w4.frozen? ⟨w.heap.size + 1, 1, none⟩ = false := by subst hW4; first | (simp only [World.frozen?_setCell]; with_reducible assumption) | go_simp
 replace b22 : w4.cell? ⟨w.heap.size + 1, 2, none⟩ = some (.slice none 0 0) := by subst hW4; go_simp
 replace f_b22 : w4.frozen? ⟨w.heap.size + 1, 2, none⟩ = false := by subst hW4; first | (simp only [World.frozen?_setCell]; with_reducible assumption) | go_simp
 clear Kw4
 have z_b1 : w.heap.size < w4.heap.size := qB b10
 have z_b2 : w.heap.size + 1 < w4.heap.size := qB b20
 have s_w4 : w.heap.size ≤ w4.heap.size := Xw4.size
 clear hW4
 refine bodyPost_ret (v := .tuple #[.agg #[.int .i64 0, .slice none 0 0, .slice none 0 0], .bool false]) (by simp only [results, Try.results64]; go_simp) rfl ?_
 rw [show diaV b1 s1 t1 (D : Int) f = noV from dia_no2 hdim2.out]
 exact PVWB.no (Xw4.trans qXt)

set_option maxHeartbeats 6400000 in
theorem implDia_2 (b1 : Int) (u1 v1 : Value) (s1 t1 : List Int) (D C : Nat) (w : World) (l1 m1 : Nat) (h1 : Ints w l1 u1 s1) (k1 : Ints w m1 v1 t1) (hdim : dimB b1 s1 t1 (D : Int) = true) (hdim2 : dimB b1 s1 t1 (C : Int) = true) (hne : (D : Int) = (C : Int)) :
  Calls Try.prog 64 #[.agg #[.int .i64 b1, u1, v1], .int .i64 (D : Int), .int .i64 (C : Int)] w (PVX w (diaV b1 s1 t1 (D : Int) (C : Int))) := by
 obtain ⟨p0, c0, rfl⟩ := h1.form
 obtain ⟨p1, c1, rfl⟩ := k1.form
 obtain ⟨hvv, hd0, hd1⟩ := dim_in hdim
 have hDN : D < s1.length := by omega
 obtain ⟨-, hts, -, ht60, -⟩ := viewB_in hvv
 have hs4 := view_small hvv
 have hs60 := Lib.hid hs4.2
 have hs4 := hs4.1
 have hDT : D < t1.length := by omega
 have ht4 : t1.length ≤ 4 := by omega
 obtain ⟨-, hf0, hf1⟩ := dim_in hdim2
 have hCN : C < s1.length := by omega
 have hCT : C < t1.length := by omega
 have hdc4 : (delL s1 C).length ≤ 4 := by rw [delL_len _ _ hCN]; omega
 replace hts := Lib.hid hts
 replace ht60 := Lib.hid ht60
 replace hvv := Lib.hid hvv
 have hnee : ((D : Int) == (C : Int)) = true := by simpa using hne
 have hnen : ((D : Int) != (C : Int)) = false := by simpa using hne
 replace hne := Lib.hid hne
 replace hdim := Lib.hid hdim
 replace hdim2 := Lib.hid hdim2
 go_enter Try.func64, Try.ntmps64
 go_wp2_with fail
 generalize hW5 : (w.alloc (.cells #[.int .i64 b1, .slice p0 s1.length c0, .slice p1 t1.length c1] 25)).alloc (.cells #[.int .i64 0, .slice none 0 0, .slice none 0 0] 25) = w1 at *
 have Lw1 : Ext w w1 := by subst hW5; exact qXt
 have Xw1 : Ext w w1 := by subst hW5; exact Lw1
 have b10 : w1.cell? ⟨w.heap.size, 0, none⟩ = some (.int .i64 b1) := by subst hW5; exact qCl
 have b11 : w1.cell? ⟨w.heap.size, 1, none⟩ = some (.slice p0 s1.length c0) := by subst hW5; exact qCl
 have b12 : w1.cell? ⟨w.heap.size, 2, none⟩ = some (.slice p1 t1.length c1) := by subst hW5; exact qCl
 have b20 : w1.cell? ⟨w.heap.size + 1, 0, none⟩ = some (.int .i64 0) := by subst hW5; exact qCl
 have b21 : w1.cell? ⟨w.heap.size + 1, 1, none⟩ = some (.slice none 0 0) := by subst hW5; exact qCl
 have b22 : w1.cell? ⟨w.heap.size + 1, 2, none⟩ = some (.slice none 0 0) := by subst hW5; exact qCl
 have f_b20 : w1.frozen? ⟨w.heap.size + 1, 0, none⟩ = false := by subst hW5; exact qFz
 have f_b21 : w1.frozen? ⟨w.heap.size + 1, 1, none⟩ = false := by subst hW5; exact qFz
 have f_b22 : w1.frozen? ⟨w.heap.size + 1, 2, none⟩ = false := by subst hW5; exact qFz
 have z_b1 : w.heap.size < w1.heap.size := qB b10
 have z_b2 : w.heap.size + 1 < w1.heap.size := qB b20
 have s_w1 : w.heap.size ≤ w1.heap.size := Xw1.size
 clear hW5
 refine wp_region_tail (S := fun w' => w'.cell? ⟨w.heap.size, 0, none⟩ = some (.int .i64 b1) ∧ w'.cell? ⟨w.heap.size, 1, none⟩ = some (.slice p0 s1.length c0) ∧ w'.cell? ⟨w.heap.size, 2, none⟩ = some (.slice p1 t1.length c1)) (fun i => decide (28 ≤ i)) qKr ⟨b10, b11, b12⟩ (fun hHeld => ?_)
 refine qTk (v := ?_) 0 rfl (.inl ⟨by rfl, ?_⟩) ?_
 rotate_left
 ·
  (intro w hSw; (try dsimp only at hSw); go_simp; try with_reducible rfl)
 try simp only [Act.put, qa, qb, qc, qD, qE, qF]
 refine qTk (v := ?_) 1 rfl (.inl ⟨by rfl, ?_⟩) ?_
 rotate_left
 ·
  (intro w hSw; (try dsimp only at hSw); go_simp; try with_reducible rfl)
 try simp only [Act.put, qa, qb, qc, qD, qE, qF]
 refine wpTail_one (i := 2) qKr rfl rfl (fun K hK => ?_)
 try simp only [Act.put, qa, qb, qc, qD, qE, qF]
 go_simp
 refine (hasDim_c b1 (.slice p0 s1.length c0) (.slice p1 t1.length c1) s1 t1 (D : Int) _ _ _ (h1.ext (Xw1.trans qXt)) (k1.ext (Xw1.trans qXt))).mono ?_
 rintro e w2 ⟨rfl, xw2⟩
 have Lw2 : Ext w1 w2 := Ext.trans qXt xw2
 have Xw2 : Ext w w2 := Xw1.trans Lw2
 replace b10 := Lw2.cell b10
 replace b11 := Lw2.cell b11
 replace b12 := Lw2.cell b12
 replace b20 := Lw2.cell b20
 replace b21 := Lw2.cell b21
 replace b22 := Lw2.cell b22
 replace f_b20 := Lw2.frz z_b2 f_b20
 replace f_b21 := Lw2.frz z_b2 f_b21
 replace f_b22 := Lw2.frz z_b2 f_b22
 have z_b1 : w.heap.size < w2.heap.size := qB b10
 have z_b2 : w.heap.size + 1 < w2.heap.size := qB b20
 have s_w2 : w.heap.size ≤ w2.heap.size := Xw2.size
 clear xw2
 rw [hdim.out]
 refine hK.out _ _ ⟨b10, b11, b12⟩ (fun hHeld => ?_)
 clear hK K
 try simp only [Act.put, qa, qb, qc, qD, qE, qF]
 refine qTk (v := ?_) 3 rfl (.inl ⟨by rfl, ?_⟩) ?_
 rotate_left
 ·
  (intro w hSw; (try dsimp only at hSw); go_simp; try with_reducible rfl)
 try simp only [Act.put, qa, qb, qc, qD, qE, qF]
 refine qTk (v := ?_) 4 rfl (.inl ⟨by rfl, ?_⟩) ?_
 rotate_left
 ·
  (intro w hSw; (try dsimp only at hSw); go_simp; try with_reducible rfl)
 try simp only [Act.put, qa, qb, qc, qD, qE, qF]
 refine qTk (v := ?_) 5 rfl (.inl ⟨by rfl, ?_⟩) ?_
 rotate_left
 ·
  (intro w hSw; (try dsimp only at hSw); go_simp; try with_reducible rfl)
 try simp only [Act.put, qa, qb, qc, qD, qE, qF]
 refine qTk (v := ?_) 6 rfl (.inl ⟨by rfl, ?_⟩) ?_
 rotate_left
 ·
  (intro w hSw; (try dsimp only at hSw); go_simp; try with_reducible rfl)
 try simp only [Act.put, qa, qb, qc, qD, qE, qF]
 refine wpTail_one (i := 7) qKr rfl rfl (fun K hK => ?_)
 try simp only [Act.put, qa, qb, qc, qD, qE, qF]
 go_simp
 refine (hasDim_c b1 (.slice p0 s1.length c0) (.slice p1 t1.length c1) s1 t1 (C : Int) _ _ _ (h1.ext (Xw2.trans qXt)) (k1.ext (Xw2.trans qXt))).mono ?_
 rintro e w3 ⟨rfl, xw3⟩
 have Lw3 : Ext w2 w3 := Ext.trans qXt xw3
 have Xw3 : Ext w w3 := Xw2.trans Lw3
 replace b10 := Lw3.cell b10
 replace b11 := Lw3.cell b11
 replace b12 := Lw3.cell b12
 replace b20 := Lw3.cell b20
 replace b21 := Lw3.cell b21
 replace b22 := Lw3.cell b22
 replace f_b20 := Lw3.frz z_b2 f_b20
 replace f_b21 := Lw3.frz z_b2 f_b21
 replace f_b22 := Lw3.frz z_b2 f_b22
 have z_b1 : w.heap.size < w3.heap.size := qB b10
 have z_b2 : w.heap.size + 1 < w3.heap.size := qB b20
 have s_w3 : w.heap.size ≤ w3.heap.size := Xw3.size
 clear xw3
 rw [hdim2.out]
 refine hK.out _ _ ⟨b10, b11, b12⟩ (fun hHeld => ?_)
 clear hK K
 try simp only [Act.put, qa, qb, qc, qD, qE, qF]
 refine qTk (v := ?_) 8 rfl (.inl ⟨by rfl, ?_⟩) ?_
 rotate_left
 ·
  (intro w hSw; (try dsimp only at hSw); go_simp; try with_reducible rfl)
 try simp only [Act.put, qa, qb, qc, qD, qE, qF]
 refine qTk (v := ?_) 9 rfl (.inl ⟨by rfl, ?_⟩) ?_
 rotate_left
 ·
  (intro w hSw; (try dsimp only at hSw); go_simp; try with_reducible rfl)
 try simp only [Act.put, qa, qb, qc, qD, qE, qF]
 refine qTk (v := ?_) 10 rfl (.inl ⟨by rfl, ?_⟩) ?_
 rotate_left
 ·
  (intro w hSw; (try dsimp only at hSw); go_simp; try with_reducible rfl)
 try simp only [Act.put, qa, qb, qc, qD, qE, qF]
 refine qTk (v := ?_) 11 rfl (.inl ⟨by rfl, ?_⟩) ?_
 rotate_left
 ·
  (intro w hSw; (try dsimp only at hSw); go_simp; try with_reducible rfl)
 try simp only [Act.put, qa, qb, qc, qD, qE, qF]
 refine qTk (v := ?_) 12 rfl (.inl ⟨by rfl, ?_⟩) ?_
 rotate_left
 ·
  (intro w hSw; (try dsimp only at hSw); go_simp; try with_reducible rfl)
 try simp only [Act.put, qa, qb, qc, qD, qE, qF]
 refine qTk (v := ?_) 13 rfl (.inl ⟨by rfl, ?_⟩) ?_
 rotate_left
 ·
  (intro w hSw; (try dsimp only at hSw); go_simp; try with_reducible rfl)
 try simp only [Act.put, qa, qb, qc, qD, qE, qF]
 refine qTk (v := ?_) 14 rfl (.inl ⟨by rfl, ?_⟩) ?_
 rotate_left
 ·
  (intro w hSw; (try dsimp only at hSw); go_simp; try with_reducible rfl)
 try simp only [Act.put, qa, qb, qc, qD, qE, qF]
 refine qTk (v := ?_) 15 rfl (.inl ⟨by rfl, ?_⟩) ?_
 rotate_left
 ·
  (intro w hSw; (try dsimp only at hSw); go_simp; try with_reducible rfl)
 try simp only [Act.put, qa, qb, qc, qD, qE, qF]
 refine qTs 16 rfl (.inr ⟨by rfl, rfl⟩) ?_
 try simp only [Act.put, qa, qb, qc, qD, qE, qF]
 refine qTs 17 rfl (.inr ⟨by rfl, rfl⟩) ?_
 try simp only [Act.put, qa, qb, qc, qD, qE, qF]
 refine qTs 18 rfl (.inr ⟨by rfl, rfl⟩) ?_
 try simp only [Act.put, qa, qb, qc, qD, qE, qF]
 refine qTs 19 rfl (.inr ⟨by rfl, rfl⟩) ?_
 try simp only [Act.put, qa, qb, qc, qD, qE, qF]
 refine qTs 20 rfl (.inr ⟨by rfl, rfl⟩) ?_
 try simp only [Act.put, qa, qb, qc, qD, qE, qF]
 refine qTs 21 rfl (.inr ⟨by rfl, rfl⟩) ?_
 try simp only [Act.put, qa, qb, qc, qD, qE, qF]
 refine qTs 22 rfl (.inr ⟨by rfl, rfl⟩) ?_
 try simp only [Act.put, qa, qb, qc, qD, qE, qF]
 refine qTs 23 rfl (.inr ⟨by rfl, rfl⟩) ?_
 try simp only [Act.put, qa, qb, qc, qD, qE, qF]
 refine qTs 24 rfl (.inr ⟨by rfl, rfl⟩) ?_
 try simp only [Act.put, qa, qb, qc, qD, qE, qF]
 refine qTs 25 rfl (.inr ⟨by rfl, rfl⟩) ?_
 try simp only [Act.put, qa, qb, qc, qD, qE, qF]
 refine qTs 26 rfl (.inr ⟨by rfl, rfl⟩) ?_
 try simp only [Act.put, qa, qb, qc, qD, qE, qF]
 refine qTk (v := ?_) 27 rfl (.inl ⟨by rfl, ?_⟩) ?_
 rotate_left
 ·
  (intro w hSw; (try dsimp only at hSw); go_simp; try with_reducible rfl)
 try simp only [Act.put, qa, qb, qc, qD, qE, qF]
 refine wpTail_done qKr ?_ _
 clear hHeld 
 go_wp2_with fail
 generalize hW6 : (((w3.setCell ⟨w.heap.size + 1, 0, none⟩ (.int .i64 0)).setCell ⟨w.heap.size + 1, 1, none⟩ (.slice none 0 0)).setCell ⟨w.heap.size + 1, 2, none⟩ (.slice none 0 0)) = w4 at *
 have Kw4 : Chg (w.heap.size + 1) (w.heap.size + 1 + 1) w3 w4 := by subst hW6; exact qCh
 have Xw4 : Ext w w4 := by subst hW6; exact qXt
 replace b10 := Kw4.cell (by omega) b10
 replace b11 := Kw4.cell (by omega) b11
 replace b12 := Kw4.cell (by omega) b12
 replace b20 : w4.cell? ⟨w.heap.size + 1, 0, none⟩ = some (.int .i64 0) := by subst hW6; go_simp
 replace f_b20 : w4.frozen? ⟨w.heap.size + 1, 0, none⟩ = false := by subst hW6; first | (simp only [World.frozen?_setCell]; with_reducible assumption) | go_simp
 replace b21 : w4.cell? ⟨w.heap.size + 1, 1, none⟩ = some (.slice none 0 0) := by subst hW6; go_simp
 replace f_b21 : w4.frozen? ⟨w.heap.size + 1, 1, none⟩ = false := by subst hW6; first | (simp only [World.frozen?_setCell]; with_reducible assumption) | go_simp
 replace b22 : w4.cell? ⟨w.heap.size + 1, 2, none⟩ = some (.slice none 0 0) := by subst hW6; go_simp
 replace f_b22 : w4.frozen? ⟨w.heap.size + 1, 2, none⟩ = false := by subst hW6; first | (simp only [World.frozen?_setCell]; with_reducible assumption) | go_simp
 clear Kw4
 have z_b1 : w.heap.size < w4.heap.size := qB b10
 have z_b2 : w.heap.size + 1 < w4.heap.size := qB b20
 have s_w4 : w.heap.size ≤ w4.heap.size := Xw4.size
 clear hW6
 refine bodyPost_ret (v := .tuple #[.agg #[.int .i64 0, .slice none 0 0, .slice none 0 0], .bool false]) (by simp only [results, Try.results64]; go_simp) rfl ?_
 rw [show diaV b1 s1 t1 (D : Int) (C : Int) = noV from dia_no3 hne.out]
 exact PVWB.no (Xw4.trans qXt)

set_option maxHeartbeats 6400000 in
theorem implDia_3 (b1 : Int) (u1 v1 : Value) (s1 t1 : List Int) (D C : Nat) (w : World) (l1 m1 : Nat) (h1 : Ints w l1 u1 s1) (k1 : Ints w m1 v1 t1) (hdim : dimB b1 s1 t1 (D : Int) = true) (hdim2 : dimB b1 s1 t1 (C : Int) = true) (hne : ¬ (D : Int) = (C : Int)) :
  Calls Try.prog 64 #[.agg #[.int .i64 b1, u1, v1], .int .i64 (D : Int), .int .i64 (C : Int)] w (PVX w (diaV b1 s1 t1 (D : Int) (C : Int))) := by
 obtain ⟨p0, c0, rfl⟩ := h1.form
 obtain ⟨p1, c1, rfl⟩ := k1.form
 obtain ⟨hvv, hd0, hd1⟩ := dim_in hdim
 have hDN : D < s1.length := by omega
 obtain ⟨-, hts, -, ht60, -⟩ := viewB_in hvv
 have hs4 := view_small hvv
 have hs60 := Lib.hid hs4.2
 have hs4 := hs4.1
 have hDT : D < t1.length := by omega
 have ht4 : t1.length ≤ 4 := by omega
 obtain ⟨-, hf0, hf1⟩ := dim_in hdim2
 have hCN : C < s1.length := by omega
 have hCT : C < t1.length := by omega
 have hdc4 : (delL s1 C).length ≤ 4 := by rw [delL_len _ _ hCN]; omega
 replace hts := Lib.hid hts
 replace ht60 := Lib.hid ht60
 replace hvv := Lib.hid hvv
 have hnee : ((D : Int) == (C : Int)) = false := by simpa using hne
 have hnen : ((D : Int) != (C : Int)) = true := by simpa using hne
 replace hne := Lib.hid hne
 replace hdim := Lib.hid hdim
 replace hdim2 := Lib.hid hdim2
 go_enter Try.func64, Try.ntmps64
 go_wp2_with fail
 generalize hW7 : (w.alloc (.cells #[.int .i64 b1, .slice p0 s1.length c0, .slice p1 t1.length c1] 25)).alloc (.cells #[.int .i64 0, .slice none 0 0, .slice none 0 0] 25) = w1 at *
 have Lw1 : Ext w w1 := by subst hW7; exact qXt
 have Xw1 : Ext w w1 := by subst hW7; exact Lw1
 have b10 : w1.cell? ⟨w.heap.size, 0, none⟩ = some (.int .i64 b1) := by subst hW7; exact qCl
 have b11 : w1.cell? ⟨w.heap.size, 1, none⟩ = some (.slice p0 s1.length c0) := by subst hW7; exact qCl
 have b12 : w1.cell? ⟨w.heap.size, 2, none⟩ = some (.slice p1 t1.length c1) := by subst hW7; exact qCl
 have b20 : w1.cell? ⟨w.heap.size + 1, 0, none⟩ = some (.int .i64 0) := by subst hW7; exact qCl
 have b21 : w1.cell? ⟨w.heap.size + 1, 1, none⟩ = some (.slice none 0 0) := by subst hW7; exact qCl
 have b22 : w1.cell? ⟨w.heap.size + 1, 2, none⟩ = some (.slice none 0 0) := by subst hW7; exact qCl
 have f_b20 : w1.frozen? ⟨w.heap.size + 1, 0, none⟩ = false := by subst hW7; exact qFz
 have f_b21 : w1.frozen? ⟨w.heap.size + 1, 1, none⟩ = false := by subst hW7; exact qFz
 have f_b22 : w1.frozen? ⟨w.heap.size + 1, 2, none⟩ = false := by subst hW7; exact qFz
 have z_b1 : w.heap.size < w1.heap.size := qB b10
 have z_b2 : w.heap.size + 1 < w1.heap.size := qB b20
 have s_w1 : w.heap.size ≤ w1.heap.size := Xw1.size
 clear hW7
 have hN_e5 : D < s1.length := (by simpa using hDN)
 have hI_e5 : (D : Int) < (s1.length : Int) := by omega
 obtain ⟨bl3, ol4, rfl, e50⟩ := h1.at D (by simpa using hDN)
 have y_e5 : bl3 < w.heap.size := qB e50
 replace e50 := Xw1.cell e50
 obtain ⟨v6, hv6⟩ : ∃ v, s1.getD D 0 = v := ⟨_, rfl⟩
 rw [hv6] at e50
 replace hv6 := Lib.hid hv6
 have z_e5 : bl3 < w1.heap.size := qB e50
 have h60v6 := hs60.out _ (getD_mem (show D < s1.length by omega))
 rw [hv6.out] at h60v6
 have hN_e9 : C < s1.length := (by simpa using hCN)
 have hI_e9 : (C : Int) < (s1.length : Int) := by omega
 obtain ⟨b_e9, o_e9, h_e9, e90⟩ := h1.at C (by simpa using hCN)
 cases h_e9
 have y_e9 : bl3 < w.heap.size := qB e90
 replace e90 := Xw1.cell e90
 obtain ⟨v10, hv10⟩ : ∃ v, s1.getD C 0 = v := ⟨_, rfl⟩
 rw [hv10] at e90
 replace hv10 := Lib.hid hv10
 have z_e9 : bl3 < w1.heap.size := qB e90
 have h60v10 := hs60.out _ (getD_mem (show C < s1.length by omega))
 rw [hv10.out] at h60v10
 refine wp_region_tail (S := fun w' => w'.cell? ⟨w.heap.size, 0, none⟩ = some (.int .i64 b1) ∧ w'.cell? ⟨w.heap.size, 1, none⟩ = some (.slice (some ⟨bl3, ol4, none⟩) s1.length c0) ∧ w'.cell? ⟨w.heap.size, 2, none⟩ = some (.slice p1 t1.length c1) ∧ w'.cell? ⟨bl3, ol4 + D, none⟩ = some (.int .i64 v6) ∧ w'.cell? ⟨bl3, ol4 + C, none⟩ = some (.int .i64 v10)) (fun i => decide (28 ≤ i)) qKr ⟨b10, b11, b12, e50, e90⟩ (fun hHeld => ?_)
 refine qTk (v := ?_) 0 rfl (.inl ⟨by rfl, ?_⟩) ?_
 rotate_left
 ·
  (intro w hSw; (try dsimp only at hSw); go_simp; try with_reducible rfl)
 try simp only [Act.put, qa, qb, qc, qD, qE, qF]
 refine qTk (v := ?_) 1 rfl (.inl ⟨by rfl, ?_⟩) ?_
 rotate_left
 ·
  (intro w hSw; (try dsimp only at hSw); go_simp; try with_reducible rfl)
 try simp only [Act.put, qa, qb, qc, qD, qE, qF]
 refine wpTail_one (i := 2) qKr rfl rfl (fun K hK => ?_)
 try simp only [Act.put, qa, qb, qc, qD, qE, qF]
 go_simp
 refine (hasDim_c b1 (.slice (some ⟨bl3, ol4, none⟩) s1.length c0) (.slice p1 t1.length c1) s1 t1 (D : Int) _ _ _ (h1.ext (Xw1.trans qXt)) (k1.ext (Xw1.trans qXt))).mono ?_
 rintro e w2 ⟨rfl, xw2⟩
 have Lw2 : Ext w1 w2 := Ext.trans qXt xw2
 have Xw2 : Ext w w2 := Xw1.trans Lw2
 replace b10 := Lw2.cell b10
 replace b11 := Lw2.cell b11
 replace b12 := Lw2.cell b12
 replace b20 := Lw2.cell b20
 replace b21 := Lw2.cell b21
 replace b22 := Lw2.cell b22
 replace f_b20 := Lw2.frz z_b2 f_b20
 replace f_b21 := Lw2.frz z_b2 f_b21
 replace f_b22 := Lw2.frz z_b2 f_b22
 replace e50 := Lw2.cell e50
 replace e90 := Lw2.cell e90
 have z_b1 : w.heap.size < w2.heap.size := qB b10
 have z_b2 : w.heap.size + 1 < w2.heap.size := qB b20
 have z_e5 : bl3 < w2.heap.size := qB e50
 have z_e9 : bl3 < w2.heap.size := qB e90
 have s_w2 : w.heap.size ≤ w2.heap.size := Xw2.size
 clear xw2
 rw [hdim.out]
 refine hK.out _ _ ⟨b10, b11, b12, e50, e90⟩ (fun hHeld => ?_)
 clear hK K
 try simp only [Act.put, qa, qb, qc, qD, qE, qF]
 refine qTk (v := ?_) 3 rfl (.inl ⟨by rfl, ?_⟩) ?_
 rotate_left
 ·
  (intro w hSw; (try dsimp only at hSw); go_simp; try with_reducible rfl)
 try simp only [Act.put, qa, qb, qc, qD, qE, qF]
 refine qTk (v := ?_) 4 rfl (.inl ⟨by rfl, ?_⟩) ?_
 rotate_left
 ·
  (intro w hSw; (try dsimp only at hSw); go_simp; try with_reducible rfl)
 try simp only [Act.put, qa, qb, qc, qD, qE, qF]
 refine qTk (v := ?_) 5 rfl (.inl ⟨by rfl, ?_⟩) ?_
 rotate_left
 ·
  (intro w hSw; (try dsimp only at hSw); go_simp; try with_reducible rfl)
 try simp only [Act.put, qa, qb, qc, qD, qE, qF]
 refine qTk (v := ?_) 6 rfl (.inl ⟨by rfl, ?_⟩) ?_
 rotate_left
 ·
  (intro w hSw; (try dsimp only at hSw); go_simp; try with_reducible rfl)
 try simp only [Act.put, qa, qb, qc, qD, qE, qF]
 refine wpTail_one (i := 7) qKr rfl rfl (fun K hK => ?_)
 try simp only [Act.put, qa, qb, qc, qD, qE, qF]
 go_simp
 refine (hasDim_c b1 (.slice (some ⟨bl3, ol4, none⟩) s1.length c0) (.slice p1 t1.length c1) s1 t1 (C : Int) _ _ _ (h1.ext (Xw2.trans qXt)) (k1.ext (Xw2.trans qXt))).mono ?_
 rintro e w3 ⟨rfl, xw3⟩
 have Lw3 : Ext w2 w3 := Ext.trans qXt xw3
 have Xw3 : Ext w w3 := Xw2.trans Lw3
 replace b10 := Lw3.cell b10
 replace b11 := Lw3.cell b11
 replace b12 := Lw3.cell b12
 replace b20 := Lw3.cell b20
 replace b21 := Lw3.cell b21
 replace b22 := Lw3.cell b22
 replace f_b20 := Lw3.frz z_b2 f_b20
 replace f_b21 := Lw3.frz z_b2 f_b21
 replace f_b22 := Lw3.frz z_b2 f_b22
 replace e50 := Lw3.cell e50
 replace e90 := Lw3.cell e90
 have z_b1 : w.heap.size < w3.heap.size := qB b10
 have z_b2 : w.heap.size + 1 < w3.heap.size := qB b20
 have z_e5 : bl3 < w3.heap.size := qB e50
 have z_e9 : bl3 < w3.heap.size := qB e90
 have s_w3 : w.heap.size ≤ w3.heap.size := Xw3.size
 clear xw3
 rw [hdim2.out]
 refine hK.out _ _ ⟨b10, b11, b12, e50, e90⟩ (fun hHeld => ?_)
 clear hK K
 try simp only [Act.put, qa, qb, qc, qD, qE, qF]
 refine qTk (v := ?_) 8 rfl (.inl ⟨by rfl, ?_⟩) ?_
 rotate_left
 ·
  (intro w hSw; (try dsimp only at hSw); go_simp; try with_reducible rfl)
 try simp only [Act.put, qa, qb, qc, qD, qE, qF]
 refine qTk (v := ?_) 9 rfl (.inl ⟨by rfl, ?_⟩) ?_
 rotate_left
 ·
  (intro w hSw; (try dsimp only at hSw); go_simp; try with_reducible rfl)
 try simp only [Act.put, qa, qb, qc, qD, qE, qF]
 refine qTk (v := ?_) 10 rfl (.inl ⟨by rfl, ?_⟩) ?_
 rotate_left
 ·
  (intro w hSw; (try dsimp only at hSw); go_simp; try with_reducible rfl)
 try simp only [Act.put, qa, qb, qc, qD, qE, qF]
 refine qTk (v := ?_) 11 rfl (.inl ⟨by rfl, ?_⟩) ?_
 rotate_left
 ·
  (intro w hSw; (try dsimp only at hSw); go_simp; try with_reducible rfl)
 try simp only [Act.put, qa, qb, qc, qD, qE, qF]
 refine qTk (v := ?_) 12 rfl (.inl ⟨by rfl, ?_⟩) ?_
 rotate_left
 ·
  (intro w hSw; (try dsimp only at hSw); go_simp; try with_reducible rfl)
 try simp only [Act.put, qa, qb, qc, qD, qE, qF]
 refine qTk (v := ?_) 13 rfl (.inl ⟨by rfl, ?_⟩) ?_
 rotate_left
 ·
  (intro w hSw; (try dsimp only at hSw); go_simp; try with_reducible rfl)
 try simp only [Act.put, qa, qb, qc, qD, qE, qF]
 refine qTk (v := ?_) 14 rfl (.inl ⟨by rfl, ?_⟩) ?_
 rotate_left
 ·
  (intro w hSw; (try dsimp only at hSw); go_simp; try with_reducible rfl)
 try simp only [Act.put, qa, qb, qc, qD, qE, qF]
 refine qTk (v := ?_) 15 rfl (.inl ⟨by rfl, ?_⟩) ?_
 rotate_left
 ·
  (intro w hSw; (try dsimp only at hSw); go_simp; try with_reducible rfl)
 try simp only [Act.put, qa, qb, qc, qD, qE, qF]
 refine qTk (v := ?_) 16 rfl (.inl ⟨by rfl, ?_⟩) ?_
 rotate_left
 ·
  (intro w hSw; (try dsimp only at hSw); go_simp; try with_reducible rfl)
 try simp only [Act.put, qa, qb, qc, qD, qE, qF]
 refine qTk (v := ?_) 17 rfl (.inl ⟨by rfl, ?_⟩) ?_
 rotate_left
 ·
  (intro w hSw; (try dsimp only at hSw); go_simp; try with_reducible rfl)
 try simp only [Act.put, qa, qb, qc, qD, qE, qF]
 refine qTk (v := ?_) 18 rfl (.inl ⟨by rfl, ?_⟩) ?_
 rotate_left
 ·
  (intro w hSw; (try dsimp only at hSw); go_simp; try with_reducible rfl)
 try simp only [Act.put, qa, qb, qc, qD, qE, qF]
 refine qTk (v := ?_) 19 rfl (.inl ⟨by rfl, ?_⟩) ?_
 rotate_left
 ·
  (intro w hSw; (try dsimp only at hSw); go_simp; try with_reducible rfl)
 try simp only [Act.put, qa, qb, qc, qD, qE, qF]
 refine qTk (v := ?_) 20 rfl (.inl ⟨by rfl, ?_⟩) ?_
 rotate_left
 ·
  (intro w hSw; (try dsimp only at hSw); go_simp; try with_reducible rfl)
 try simp only [Act.put, qa, qb, qc, qD, qE, qF]
 refine qTk (v := ?_) 21 rfl (.inl ⟨by rfl, ?_⟩) ?_
 rotate_left
 ·
  (intro w hSw; (try dsimp only at hSw); go_simp; try with_reducible rfl)
 try simp only [Act.put, qa, qb, qc, qD, qE, qF]
 refine qTk (v := ?_) 22 rfl (.inl ⟨by rfl, ?_⟩) ?_
 rotate_left
 ·
  (intro w hSw; (try dsimp only at hSw); go_simp; try with_reducible rfl)
 try simp only [Act.put, qa, qb, qc, qD, qE, qF]
 refine qTk (v := ?_) 23 rfl (.inl ⟨by rfl, ?_⟩) ?_
 rotate_left
 ·
  (intro w hSw; (try dsimp only at hSw); go_simp; try with_reducible rfl)
 try simp only [Act.put, qa, qb, qc, qD, qE, qF]
 refine qTk (v := ?_) 24 rfl (.inl ⟨by rfl, ?_⟩) ?_
 rotate_left
 ·
  (intro w hSw; (try dsimp only at hSw); go_simp; try with_reducible rfl)
 try simp only [Act.put, qa, qb, qc, qD, qE, qF]
 refine qTk (v := ?_) 25 rfl (.inl ⟨by rfl, ?_⟩) ?_
 rotate_left
 ·
  (intro w hSw; (try dsimp only at hSw); go_simp; try with_reducible rfl)
 try simp only [Act.put, qa, qb, qc, qD, qE, qF]
 by_cases hc17 : (v6 : Int) = (v10 : Int)
 ·
  have hc17e : ((v6 : Int) == (v10 : Int)) = true := by simpa using hc17
  have hc17n : ((v6 : Int) != (v10 : Int)) = false := by simpa using hc17
  replace hc17 := Lib.hid hc17
  refine qTk (v := ?_) 26 rfl (.inl ⟨by rfl, ?_⟩) ?_
  rotate_left
  ·
   (intro w hSw; (try dsimp only at hSw); go_simp; try with_reducible rfl)
  try simp only [Act.put, qa, qb, qc, qD, qE, qF]
  refine qTk (v := ?_) 27 rfl (.inl ⟨by rfl, ?_⟩) ?_
  rotate_left
  ·
   (intro w hSw; (try dsimp only at hSw); go_simp; try with_reducible rfl)
  try simp only [Act.put, qa, qb, qc, qD, qE, qF]
  refine wpTail_done qKr ?_ _
  clear hHeld 
  go_wp2_with fail
  have Q24_b10 := Lib.hid b10
  have Q24_b11 := Lib.hid b11
  have Q24_b12 := Lib.hid b12
  have Q24_zb1 := z_b1
  have Q24_b20 := Lib.hid b20
  have Q24_f_b20 := Lib.hid f_b20
  have Q24_b21 := Lib.hid b21
  have Q24_f_b21 := Lib.hid f_b21
  have Q24_b22 := Lib.hid b22
  have Q24_f_b22 := Lib.hid f_b22
  have Q24_zb2 := z_b2
  have Q24_e50 := Lib.hid e50
  have Q24_ze5 := z_e5
  have Q24_e90 := Lib.hid e90
  have Q24_ze9 := z_e9
  have BL25 : Ext w3 w3 := Ext.refl _
  refine (copyViewO_c b1 (.slice (some ⟨bl3, ol4, none⟩) s1.length c0) (.slice p1 t1.length c1) s1 t1 _ _ _ (h1.ext (Xw3.trans qXt)) (k1.ext (Xw3.trans qXt))).mono ?_
  rintro e w4 ⟨gr18, gr19, rr20, rr21, rfl, O22, O23, Ggr18, Ggr18', Ggr19, Ggr19', hggr18, xw4⟩
  have Lw4 : Ext w3 w4 := Ext.trans qXt xw4
  have Xw4 : Ext w w4 := Xw3.trans Lw4
  replace b10 := Lw4.cell b10
  replace b11 := Lw4.cell b11
  replace b12 := Lw4.cell b12
  replace b20 := Lw4.cell b20
  replace b21 := Lw4.cell b21
  replace b22 := Lw4.cell b22
  replace f_b20 := Lw4.frz z_b2 f_b20
  replace f_b21 := Lw4.frz z_b2 f_b21
  replace f_b22 := Lw4.frz z_b2 f_b22
  replace e50 := Lw4.cell e50
  replace e90 := Lw4.cell e90
  have z_b1 : w.heap.size < w4.heap.size := qB b10
  have z_b2 : w.heap.size + 1 < w4.heap.size := qB b20
  have z_e5 : bl3 < w4.heap.size := qB e50
  have z_e9 : bl3 < w4.heap.size := qB e90
  have s_w4 : w.heap.size ≤ w4.heap.size := Xw4.size
  have BL25_w4 : Ext w3 w4 := BL25.trans Lw4
  clear xw4
  go_wp2_with fail
  generalize hW8 : w4.alloc (.cells #[.int .i64 b1, .slice (some ⟨gr18, 0, none⟩) s1.length rr20, .slice (some ⟨gr19, 0, none⟩) t1.length rr21] 25) = w5 at *
  have Lw5 : Ext w4 w5 := by subst hW8; exact qXt
  have Xw5 : Ext w w5 := Xw4.trans Lw5
  replace b10 := Lw5.cell b10
  replace b11 := Lw5.cell b11
  replace b12 := Lw5.cell b12
  replace b20 := Lw5.cell b20
  replace b21 := Lw5.cell b21
  replace b22 := Lw5.cell b22
  replace f_b20 := Lw5.frz z_b2 f_b20
  replace f_b21 := Lw5.frz z_b2 f_b21
  replace f_b22 := Lw5.frz z_b2 f_b22
  replace e50 := Lw5.cell e50
  replace e90 := Lw5.cell e90
  have b260 : w5.cell? ⟨w4.heap.size, 0, none⟩ = some (.int .i64 b1) := by subst hW8; exact qCl
  have b261 : w5.cell? ⟨w4.heap.size, 1, none⟩ = some (.slice (some ⟨gr18, 0, none⟩) s1.length rr20) := by subst hW8; exact qCl
  have b262 : w5.cell? ⟨w4.heap.size, 2, none⟩ = some (.slice (some ⟨gr19, 0, none⟩) t1.length rr21) := by subst hW8; exact qCl
  have z_b1 : w.heap.size < w5.heap.size := qB b10
  have z_b2 : w.heap.size + 1 < w5.heap.size := qB b20
  have z_e5 : bl3 < w5.heap.size := qB e50
  have z_e9 : bl3 < w5.heap.size := qB e90
  have z_b26 : w4.heap.size < w5.heap.size := qB b260
  replace O22 := O22.ext Lw5
  replace O23 := O23.ext Lw5
  have s_w5 : w.heap.size ≤ w5.heap.size := Xw5.size
  have BL25_w5 : Ext w3 w5 := BL25_w4.trans Lw5
  clear hW8
  have hN_e29 : D < t1.length := (by simpa using hDT)
  have hI_e29 : (D : Int) < (t1.length : Int) := by omega
  obtain ⟨b_e29, o_e29, h_e29, e290⟩ := (O23.ints (by first | omega | (simp only [List.length_set]; omega))).at D (by simpa using hDT)
  cases h_e29
  rw [Nat.zero_add] at e290
  obtain ⟨v30, hv30⟩ : ∃ v, t1.getD D 0 = v := ⟨_, rfl⟩
  rw [hv30] at e290
  replace hv30 := Lib.hid hv30
  have y_e29 : gr19 < w5.heap.size := qB e290
  have z_e29 := y_e29
  have h60v30 := dia_bd ht60.out (show D < t1.length by omega)
  rw [hv30.out] at h60v30
  have hN_e33 : C < t1.length := (by simpa using hCT)
  have hI_e33 : (C : Int) < (t1.length : Int) := by omega
  obtain ⟨bl31, ol32, rfl, e330⟩ := k1.at C (by simpa using hCT)
  have y_e33 : bl31 < w.heap.size := qB e330
  replace e330 := Xw5.cell e330
  obtain ⟨v34, hv34⟩ : ∃ v, t1.getD C 0 = v := ⟨_, rfl⟩
  rw [hv34] at e330
  replace hv34 := Lib.hid hv34
  have z_e33 : bl31 < w5.heap.size := qB e330
  have h60v34 := dia_bd ht60.out (show C < t1.length by omega)
  rw [hv34.out] at h60v34
  have A35 := O23.cell D (by simpa using hDT)
  obtain ⟨A35a, A35b⟩ := A35
  refine wp_region_tail (S := fun w' => w'.cell? ⟨w.heap.size, 2, none⟩ = some (.slice (some ⟨bl31, ol32, none⟩) t1.length c1) ∧ w'.cell? ⟨w4.heap.size, 2, none⟩ = some (.slice (some ⟨gr19, 0, none⟩) t1.length rr21) ∧ w'.cell? ⟨gr19, D, none⟩ = some (.int .i64 v30) ∧ w'.cell? ⟨bl31, ol32 + C, none⟩ = some (.int .i64 v34)) (fun i => decide (12 ≤ i)) qKr ⟨b12, b262, e290, e330⟩ (fun hHeld => ?_)
  refine qTk (v := ?_) 0 rfl (.inl ⟨by rfl, ?_⟩) ?_
  rotate_left
  ·
   (intro w hSw; (try dsimp only at hSw); go_simp; try with_reducible rfl)
  try simp only [Act.put, qa, qb, qc, qD, qE, qF]
  refine qTk (v := ?_) 1 rfl (.inl ⟨by rfl, ?_⟩) ?_
  rotate_left
  ·
   (intro w hSw; (try dsimp only at hSw); go_simp; try with_reducible rfl)
  try simp only [Act.put, qa, qb, qc, qD, qE, qF]
  refine qTk (v := ?_) 2 rfl (.inl ⟨by rfl, ?_⟩) ?_
  rotate_left
  ·
   (intro w hSw; (try dsimp only at hSw); go_simp; try with_reducible rfl)
  try simp only [Act.put, qa, qb, qc, qD, qE, qF]
  refine qTk (v := ?_) 3 rfl (.inl ⟨by rfl, ?_⟩) ?_
  rotate_left
  ·
   (intro w hSw; (try dsimp only at hSw); go_simp; try with_reducible rfl)
  try simp only [Act.put, qa, qb, qc, qD, qE, qF]
  refine qTk (v := ?_) 4 rfl (.inl ⟨by rfl, ?_⟩) ?_
  rotate_left
  ·
   (intro w hSw; (try dsimp only at hSw); go_simp; try with_reducible rfl)
  try simp only [Act.put, qa, qb, qc, qD, qE, qF]
  refine qTk (v := ?_) 5 rfl (.inl ⟨by rfl, ?_⟩) ?_
  rotate_left
  ·
   (intro w hSw; (try dsimp only at hSw); go_simp; try with_reducible rfl)
  try simp only [Act.put, qa, qb, qc, qD, qE, qF]
  refine qTk (v := ?_) 6 rfl (.inl ⟨by rfl, ?_⟩) ?_
  rotate_left
  ·
   (intro w hSw; (try dsimp only at hSw); go_simp; try with_reducible rfl)
  try simp only [Act.put, qa, qb, qc, qD, qE, qF]
  refine qTk (v := ?_) 7 rfl (.inl ⟨by rfl, ?_⟩) ?_
  rotate_left
  ·
   (intro w hSw; (try dsimp only at hSw); go_simp; try with_reducible rfl)
  try simp only [Act.put, qa, qb, qc, qD, qE, qF]
  refine qTk (v := ?_) 8 rfl (.inl ⟨by rfl, ?_⟩) ?_
  rotate_left
  ·
   (intro w hSw; (try dsimp only at hSw); go_simp; try with_reducible rfl)
  try simp only [Act.put, qa, qb, qc, qD, qE, qF]
  refine qTk (v := ?_) 9 rfl (.inl ⟨by rfl, ?_⟩) ?_
  rotate_left
  ·
   (intro w hSw; (try dsimp only at hSw); go_simp; try with_reducible rfl)
  try simp only [Act.put, qa, qb, qc, qD, qE, qF]
  have hw42 : IntKind.i64.wrap (v30 + v34) = v30 + v34 := IntWalk.i64_in _ (by omega)
  refine qTk (v := ?_) 10 rfl (.inl ⟨by rfl, ?_⟩) ?_
  rotate_left
  ·
   (intro w hSw; (try dsimp only at hSw); go_simp; try with_reducible rfl)
  try simp only [Act.put, qa, qb, qc, qD, qE, qF]
  refine qTk (v := ?_) 11 rfl (.inl ⟨by rfl, ?_⟩) ?_
  rotate_left
  ·
   (intro w hSw; (try dsimp only at hSw); go_simp; try with_reducible rfl)
  try simp only [Act.put, qa, qb, qc, qD, qE, qF]
  refine wpTail_last (i := 12) qKr rfl rfl (fun K hK => ?_)
  try simp only [Act.put, qa, qb, qc, qD, qE, qF]
  go_simp
  refine hK.out _ _ ?_
  clear hK K
  try simp only [Act.put, qa, qb, qc, qD, qE, qF]
  refine wpTail_done qKr ?_ _
  clear hHeld hw42
  clear e50 z_e5
  clear e90 z_e9
  clear e290 z_e29
  clear e330 z_e33
  generalize hW9 : ((w5.setCell ⟨gr19, D, none⟩ (.int .i64 (v30 + v34))).drew) = w6 at *
  have Kw6 : Chg (gr19) (gr19 + 1) w5 w6 := by subst hW9; exact qCh
  have Xw6 : Ext w w6 := by subst hW9; exact qXt
  have BL25_w6 : Ext w3 w6 := by subst hW9; exact qXt
  replace b10 := Kw6.cell (by omega) b10
  replace b11 := Kw6.cell (by omega) b11
  replace b12 := Kw6.cell (by omega) b12
  replace b20 := BL25_w6.cell Q24_b20.out
  replace f_b20 := BL25_w6.frz Q24_zb2 Q24_f_b20.out
  replace b21 := BL25_w6.cell Q24_b21.out
  replace f_b21 := BL25_w6.frz Q24_zb2 Q24_f_b21.out
  replace b22 := BL25_w6.cell Q24_b22.out
  replace f_b22 := BL25_w6.frz Q24_zb2 Q24_f_b22.out
  replace b260 := Kw6.cell (by omega) b260
  replace b261 := Kw6.cell (by omega) b261
  replace b262 := Kw6.cell (by omega) b262
  replace O22 := O22.chgN Kw6 (by omega)
  have n_O23 := O23.setD D (v30 + v34) (by first | omega | (simp; omega) | (rw [putUp_len]; simp; omega) | (rw [addUp_len]; omega))
  rw [hW9] at n_O23
  replace O23 := n_O23
  clear n_O23
  clear Kw6
  have z_b1 : w.heap.size < w6.heap.size := qB b10
  have z_b2 : w.heap.size + 1 < w6.heap.size := qB b20
  have z_b26 : w4.heap.size < w6.heap.size := qB b260
  have s_w6 : w.heap.size ≤ w6.heap.size := Xw6.size
  clear hW9
  clear A35a A35b
  have hN_e45 : D < s1.length := (by simpa using hDN)
  have hI_e45 : (D : Int) < (s1.length : Int) := by omega
  obtain ⟨b_e45, o_e45, h_e45, e450⟩ := h1.at D (by simpa using hDN)
  cases h_e45
  have y_e45 : bl3 < w.heap.size := qB e450
  replace e450 := Xw6.cell e450
  rw [hv6.out] at e450
  have z_e45 : bl3 < w6.heap.size := qB e450
  by_cases hc46 : (v6 : Int) < (2 : Int)
  ·
   have A47 := O23.cell D (by simpa using hDT)
   obtain ⟨A47a, A47b⟩ := A47
   go_wp2_with fail
   clear e450 z_e45
   generalize hW10 : (w6.setCell ⟨gr19, D, none⟩ (.int .i64 0)) = w7 at *
   have Kw7 : Chg (gr19) (gr19 + 1) w6 w7 := by subst hW10; exact qCh
   have Xw7 : Ext w w7 := by subst hW10; exact qXt
   have BL25_w7 : Ext w3 w7 := by subst hW10; exact qXt
   replace b10 := Kw7.cell (by omega) b10
   replace b11 := Kw7.cell (by omega) b11
   replace b12 := Kw7.cell (by omega) b12
   replace b20 := BL25_w7.cell Q24_b20.out
   replace f_b20 := BL25_w7.frz Q24_zb2 Q24_f_b20.out
   replace b21 := BL25_w7.cell Q24_b21.out
   replace f_b21 := BL25_w7.frz Q24_zb2 Q24_f_b21.out
   replace b22 := BL25_w7.cell Q24_b22.out
   replace f_b22 := BL25_w7.frz Q24_zb2 Q24_f_b22.out
   replace b260 := Kw7.cell (by omega) b260
   replace b261 := Kw7.cell (by omega) b261
   replace b262 := Kw7.cell (by omega) b262
   replace O22 := O22.chgN Kw7 (by omega)
   have n_O23 := O23.set D (0) (by first | omega | (simp; omega) | (rw [putUp_len]; simp; omega) | (rw [addUp_len]; omega))
   rw [hW10] at n_O23
   replace O23 := n_O23
   clear n_O23
   clear Kw7
   have z_b1 : w.heap.size < w7.heap.size := qB b10
   have z_b2 : w.heap.size + 1 < w7.heap.size := qB b20
   have z_b26 : w4.heap.size < w7.heap.size := qB b260
   have s_w7 : w.heap.size ≤ w7.heap.size := Xw7.size
   clear hW10
   clear A47a A47b
   rw [List.set_set] at O23
   go_wp2_with fail
   refine (withoutDim_c b1 (.slice (some ⟨gr18, 0, none⟩) s1.length rr20) (.slice (some ⟨gr19, 0, none⟩) t1.length rr21) s1 (t1.set D 0) C _ _ _ ((O22.ints (by first | omega | (simp only [List.length_set]; omega))).ext qXt) ((O23.ints (by first | omega | (simp only [List.length_set]; omega))).ext qXt) hCN (by simp only [List.length_set]; exact hts.out) hs4).mono ?_
   rintro e w8 ⟨fv48u, fv48v, rfl, i49u, i49v, xw8⟩
   have Lw8 : Ext w7 w8 := Ext.trans qXt xw8
   have Xw8 : Ext w w8 := Xw7.trans Lw8
   replace b10 := Lw8.cell b10
   replace b11 := Lw8.cell b11
   replace b12 := Lw8.cell b12
   replace b20 := Lw8.cell b20
   replace b21 := Lw8.cell b21
   replace b22 := Lw8.cell b22
   replace f_b20 := Lw8.frz z_b2 f_b20
   replace f_b21 := Lw8.frz z_b2 f_b21
   replace f_b22 := Lw8.frz z_b2 f_b22
   replace b260 := Lw8.cell b260
   replace b261 := Lw8.cell b261
   replace b262 := Lw8.cell b262
   have z_b1 : w.heap.size < w8.heap.size := qB b10
   have z_b2 : w.heap.size + 1 < w8.heap.size := qB b20
   have z_b26 : w4.heap.size < w8.heap.size := qB b260
   replace O22 := O22.ext Lw8
   replace O23 := O23.ext Lw8
   have s_w8 : w.heap.size ≤ w8.heap.size := Xw8.size
   have BL25_w8 : Ext w3 w8 := BL25_w7.trans Lw8
   clear xw8
   obtain ⟨afv48u, cfv48u, rfl⟩ := i49u.form
   obtain ⟨afv48v, cfv48v, rfl⟩ := i49v.form
   go_wp2_with fail
   by_cases hcl50 : countL (delL s1 C) = 0
   ·
    refine (cleared_0 b1 _ _ (delL s1 C) _ _ (i49u.ext qXt) hcl50).mono ?_
    rintro e w9 ⟨svO51, rfl, O51, xw9⟩
    have Lw9 : Ext w8 w9 := Ext.trans qXt xw9
    have Xw9 : Ext w w9 := Xw8.trans Lw9
    replace b10 := Lw9.cell b10
    replace b11 := Lw9.cell b11
    replace b12 := Lw9.cell b12
    replace b20 := Lw9.cell b20
    replace b21 := Lw9.cell b21
    replace b22 := Lw9.cell b22
    replace f_b20 := Lw9.frz z_b2 f_b20
    replace f_b21 := Lw9.frz z_b2 f_b21
    replace f_b22 := Lw9.frz z_b2 f_b22
    replace b260 := Lw9.cell b260
    replace b261 := Lw9.cell b261
    replace b262 := Lw9.cell b262
    have z_b1 : w.heap.size < w9.heap.size := qB b10
    have z_b2 : w.heap.size + 1 < w9.heap.size := qB b20
    have z_b26 : w4.heap.size < w9.heap.size := qB b260
    replace O22 := O22.ext Lw9
    replace O23 := O23.ext Lw9
    replace i49u := i49u.ext Lw9
    replace i49v := i49v.ext Lw9
    have s_w9 : w.heap.size ≤ w9.heap.size := Xw9.size
    have BL25_w9 : Ext w3 w9 := BL25_w8.trans Lw9
    clear xw9
    obtain ⟨aa52, cc53, rfl⟩ := (O51.ints (by simp; omega)).form
    rw [List.length_replicate] at O51 ⊢
    go_wp2_with fail
    generalize hW11 : (((w9.setCell ⟨w.heap.size + 1, 0, none⟩ (.int .i64 0)).setCell ⟨w.heap.size + 1, 1, none⟩ (.slice afv48u ((delL s1 C).length) cfv48u)).setCell ⟨w.heap.size + 1, 2, none⟩ (.slice aa52 ((delL s1 C).length) cc53)) = w10 at *
    have Kw10 : Chg (w.heap.size + 1) (w.heap.size + 1 + 1) w9 w10 := by subst hW11; exact qCh
    have Xw10 : Ext w w10 := by subst hW11; exact qXt
    replace b10 := Kw10.cell (by omega) b10
    replace b11 := Kw10.cell (by omega) b11
    replace b12 := Kw10.cell (by omega) b12
    replace b20 : w10.cell? ⟨w.heap.size + 1, 0, none⟩ = some (.int .i64 0) := by subst hW11; go_simp
    replace f_b20 : w10.frozen? ⟨w.heap.size + 1, 0, none⟩ = false := by subst hW11; first | (simp only [World.frozen?_setCell]; with_reducible assumption) | go_simp
    replace b21 : w10.cell? ⟨w.heap.size + 1, 1, none⟩ = some (.slice afv48u ((delL s1 C).length) cfv48u) := by subst hW11; go_simp
    replace f_b21 : w10.frozen? ⟨w.heap.size + 1, 1, none⟩ = false := by subst hW11; first | (simp only [World.frozen?_setCell]; with_reducible assumption) | go_simp
    replace b22 : w10.cell? ⟨w.heap.size + 1, 2, none⟩ = some (.slice aa52 ((delL s1 C).length) cc53) := by subst hW11; go_simp
    replace f_b22 : w10.frozen? ⟨w.heap.size + 1, 2, none⟩ = false := by subst hW11; first | (simp only [World.frozen?_setCell]; with_reducible assumption) | go_simp
    replace b260 := Kw10.cell (by omega) b260
    replace b261 := Kw10.cell (by omega) b261
    replace b262 := Kw10.cell (by omega) b262
    replace O22 := O22.chgN Kw10 (by omega)
    replace O23 := O23.chgN Kw10 (by omega)
    replace i49u := i49u.chg Kw10 (by omega)
    replace i49v := i49v.chg Kw10 (by omega)
    replace O51 := O51.chg Kw10 (by omega)
    clear Kw10
    have z_b1 : w.heap.size < w10.heap.size := qB b10
    have z_b2 : w.heap.size + 1 < w10.heap.size := qB b20
    have z_b26 : w4.heap.size < w10.heap.size := qB b260
    have s_w10 : w.heap.size ≤ w10.heap.size := Xw10.size
    clear hW11
    refine bodyPost_ret (v := .tuple #[.agg #[.int .i64 0, .slice afv48u ((delL s1 C).length) cfv48u, .slice aa52 ((delL s1 C).length) cc53], .bool true]) (by simp only [results, Try.results64]; go_simp) rfl ?_
    have hdg := dia_yes (dia_ok hdim.out hdim2.out hne.out hv6.out hv10.out hc17.out)
    rw [hdg]
    have hdt : diaT s1 t1 D C = t1.set D 0 := by unfold diaT; rw [hv6.out, hv30.out, hv34.out]; exact congrArg _ (if_pos (by omega))
    refine ⟨.slice afv48u ((delL s1 C).length) cfv48u, .slice aa52 ((delL s1 C).length) cc53, ?_, i49u.lower (by omega), ?_, (Xw10.trans qXt)⟩
    ·
     rw [show tidyB b1 (delL s1 C) = 0 by unfold tidyB; rw [if_pos hcl50]]
    ·
     rw [hdt, show tidyT (delL s1 C) (delL (t1.set D 0) C) = List.replicate (delL s1 C).length 0 by unfold tidyT; rw [if_pos hcl50]]
     exact (O51.ints (by simp; omega)).lower (by omega)
   ·
    refine (cleared_1 b1 _ _ (delL s1 C) (delL (t1.set D 0) C) _ _ _ (i49u.ext qXt) (i49v.ext qXt) hcl50).mono ?_
    rintro e w9 ⟨rfl, xw9⟩
    have Lw9 : Ext w8 w9 := Ext.trans qXt xw9
    have Xw9 : Ext w w9 := Xw8.trans Lw9
    replace b10 := Lw9.cell b10
    replace b11 := Lw9.cell b11
    replace b12 := Lw9.cell b12
    replace b20 := Lw9.cell b20
    replace b21 := Lw9.cell b21
    replace b22 := Lw9.cell b22
    replace f_b20 := Lw9.frz z_b2 f_b20
    replace f_b21 := Lw9.frz z_b2 f_b21
    replace f_b22 := Lw9.frz z_b2 f_b22
    replace b260 := Lw9.cell b260
    replace b261 := Lw9.cell b261
    replace b262 := Lw9.cell b262
    have z_b1 : w.heap.size < w9.heap.size := qB b10
    have z_b2 : w.heap.size + 1 < w9.heap.size := qB b20
    have z_b26 : w4.heap.size < w9.heap.size := qB b260
    replace O22 := O22.ext Lw9
    replace O23 := O23.ext Lw9
    replace i49u := i49u.ext Lw9
    replace i49v := i49v.ext Lw9
    have s_w9 : w.heap.size ≤ w9.heap.size := Xw9.size
    have BL25_w9 : Ext w3 w9 := BL25_w8.trans Lw9
    clear xw9
    go_wp2_with fail
    generalize hW12 : (((w9.setCell ⟨w.heap.size + 1, 0, none⟩ (.int .i64 b1)).setCell ⟨w.heap.size + 1, 1, none⟩ (.slice afv48u ((delL s1 C).length) cfv48u)).setCell ⟨w.heap.size + 1, 2, none⟩ (.slice afv48v ((delL (t1.set D 0) C).length) cfv48v)) = w10 at *
    have Kw10 : Chg (w.heap.size + 1) (w.heap.size + 1 + 1) w9 w10 := by subst hW12; exact qCh
    have Xw10 : Ext w w10 := by subst hW12; exact qXt
    replace b10 := Kw10.cell (by omega) b10
    replace b11 := Kw10.cell (by omega) b11
    replace b12 := Kw10.cell (by omega) b12
    replace b20 : w10.cell? ⟨w.heap.size + 1, 0, none⟩ = some (.int .i64 b1) := by subst hW12; go_simp
    replace f_b20 : w10.frozen? ⟨w.heap.size + 1, 0, none⟩ = false := by subst hW12; first | (simp only [World.frozen?_setCell]; with_reducible assumption) | go_simp
    replace b21 : w10.cell? ⟨w.heap.size + 1, 1, none⟩ = some (.slice afv48u ((delL s1 C).length) cfv48u) := by subst hW12; go_simp
    replace f_b21 : w10.frozen? ⟨w.heap.size + 1, 1, none⟩ = false := by subst hW12; first | (simp only [World.frozen?_setCell]; with_reducible assumption) | go_simp
    replace b22 : w10.cell? ⟨w.heap.size + 1, 2, none⟩ = some (.slice afv48v ((delL (t1.set D 0) C).length) cfv48v) := by subst hW12; go_simp
    replace f_b22 : w10.frozen? ⟨w.heap.size + 1, 2, none⟩ = false := by subst hW12; first | (simp only [World.frozen?_setCell]; with_reducible assumption) | go_simp
    replace b260 := Kw10.cell (by omega) b260
    replace b261 := Kw10.cell (by omega) b261
    replace b262 := Kw10.cell (by omega) b262
    replace O22 := O22.chgN Kw10 (by omega)
    replace O23 := O23.chgN Kw10 (by omega)
    replace i49u := i49u.chg Kw10 (by omega)
    replace i49v := i49v.chg Kw10 (by omega)
    clear Kw10
    have z_b1 : w.heap.size < w10.heap.size := qB b10
    have z_b2 : w.heap.size + 1 < w10.heap.size := qB b20
    have z_b26 : w4.heap.size < w10.heap.size := qB b260
    have s_w10 : w.heap.size ≤ w10.heap.size := Xw10.size
    clear hW12
    refine bodyPost_ret (v := .tuple #[.agg #[.int .i64 b1, .slice afv48u ((delL s1 C).length) cfv48u, .slice afv48v ((delL (t1.set D 0) C).length) cfv48v], .bool true]) (by simp only [results, Try.results64]; go_simp) rfl ?_
    have hdg := dia_yes (dia_ok hdim.out hdim2.out hne.out hv6.out hv10.out hc17.out)
    rw [hdg]
    have hdt : diaT s1 t1 D C = t1.set D 0 := by unfold diaT; rw [hv6.out, hv30.out, hv34.out]; exact congrArg _ (if_pos (by omega))
    refine ⟨.slice afv48u ((delL s1 C).length) cfv48u, .slice afv48v ((delL (t1.set D 0) C).length) cfv48v, ?_, i49u.lower (by omega), ?_, (Xw10.trans qXt)⟩
    ·
     rw [show tidyB b1 (delL s1 C) = b1 by unfold tidyB; rw [if_neg hcl50]]
    ·
     rw [hdt, show tidyT (delL s1 C) (delL (t1.set D 0) C) = delL (t1.set D 0) C by unfold tidyT; rw [if_neg hcl50]]
     exact i49v.lower (by omega)
  ·
   go_wp2_with fail
   go_wp2_with fail
   refine (withoutDim_c b1 (.slice (some ⟨gr18, 0, none⟩) s1.length rr20) (.slice (some ⟨gr19, 0, none⟩) t1.length rr21) s1 (t1.set D (v30 + v34)) C _ _ _ ((O22.ints (by first | omega | (simp only [List.length_set]; omega))).ext qXt) ((O23.ints (by first | omega | (simp only [List.length_set]; omega))).ext qXt) hCN (by simp only [List.length_set]; exact hts.out) hs4).mono ?_
   rintro e w7 ⟨fv54u, fv54v, rfl, i55u, i55v, xw7⟩
   have Lw7 : Ext w6 w7 := Ext.trans qXt xw7
   have Xw7 : Ext w w7 := Xw6.trans Lw7
   replace b10 := Lw7.cell b10
   replace b11 := Lw7.cell b11
   replace b12 := Lw7.cell b12
   replace b20 := Lw7.cell b20
   replace b21 := Lw7.cell b21
   replace b22 := Lw7.cell b22
   replace f_b20 := Lw7.frz z_b2 f_b20
   replace f_b21 := Lw7.frz z_b2 f_b21
   replace f_b22 := Lw7.frz z_b2 f_b22
   replace b260 := Lw7.cell b260
   replace b261 := Lw7.cell b261
   replace b262 := Lw7.cell b262
   replace e450 := Lw7.cell e450
   have z_b1 : w.heap.size < w7.heap.size := qB b10
   have z_b2 : w.heap.size + 1 < w7.heap.size := qB b20
   have z_b26 : w4.heap.size < w7.heap.size := qB b260
   have z_e45 : bl3 < w7.heap.size := qB e450
   replace O22 := O22.ext Lw7
   replace O23 := O23.ext Lw7
   have s_w7 : w.heap.size ≤ w7.heap.size := Xw7.size
   have BL25_w7 : Ext w3 w7 := BL25_w6.trans Lw7
   clear xw7
   obtain ⟨afv54u, cfv54u, rfl⟩ := i55u.form
   obtain ⟨afv54v, cfv54v, rfl⟩ := i55v.form
   go_wp2_with fail
   by_cases hcl56 : countL (delL s1 C) = 0
   ·
    refine (cleared_0 b1 _ _ (delL s1 C) _ _ (i55u.ext qXt) hcl56).mono ?_
    rintro e w8 ⟨svO57, rfl, O57, xw8⟩
    have Lw8 : Ext w7 w8 := Ext.trans qXt xw8
    have Xw8 : Ext w w8 := Xw7.trans Lw8
    replace b10 := Lw8.cell b10
    replace b11 := Lw8.cell b11
    replace b12 := Lw8.cell b12
    replace b20 := Lw8.cell b20
    replace b21 := Lw8.cell b21
    replace b22 := Lw8.cell b22
    replace f_b20 := Lw8.frz z_b2 f_b20
    replace f_b21 := Lw8.frz z_b2 f_b21
    replace f_b22 := Lw8.frz z_b2 f_b22
    replace b260 := Lw8.cell b260
    replace b261 := Lw8.cell b261
    replace b262 := Lw8.cell b262
    replace e450 := Lw8.cell e450
    have z_b1 : w.heap.size < w8.heap.size := qB b10
    have z_b2 : w.heap.size + 1 < w8.heap.size := qB b20
    have z_b26 : w4.heap.size < w8.heap.size := qB b260
    have z_e45 : bl3 < w8.heap.size := qB e450
    replace O22 := O22.ext Lw8
    replace O23 := O23.ext Lw8
    replace i55u := i55u.ext Lw8
    replace i55v := i55v.ext Lw8
    have s_w8 : w.heap.size ≤ w8.heap.size := Xw8.size
    have BL25_w8 : Ext w3 w8 := BL25_w7.trans Lw8
    clear xw8
    obtain ⟨aa58, cc59, rfl⟩ := (O57.ints (by simp; omega)).form
    rw [List.length_replicate] at O57 ⊢
    go_wp2_with fail
    generalize hW13 : (((w8.setCell ⟨w.heap.size + 1, 0, none⟩ (.int .i64 0)).setCell ⟨w.heap.size + 1, 1, none⟩ (.slice afv54u ((delL s1 C).length) cfv54u)).setCell ⟨w.heap.size + 1, 2, none⟩ (.slice aa58 ((delL s1 C).length) cc59)) = w9 at *
    have Kw9 : Chg (w.heap.size + 1) (w.heap.size + 1 + 1) w8 w9 := by subst hW13; exact qCh
    have Xw9 : Ext w w9 := by subst hW13; exact qXt
    replace b10 := Kw9.cell (by omega) b10
    replace b11 := Kw9.cell (by omega) b11
    replace b12 := Kw9.cell (by omega) b12
    replace b20 : w9.cell? ⟨w.heap.size + 1, 0, none⟩ = some (.int .i64 0) := by subst hW13; go_simp
    replace f_b20 : w9.frozen? ⟨w.heap.size + 1, 0, none⟩ = false := by subst hW13; first | (simp only [World.frozen?_setCell]; with_reducible assumption) | go_simp
    replace b21 : w9.cell? ⟨w.heap.size + 1, 1, none⟩ = some (.slice afv54u ((delL s1 C).length) cfv54u) := by subst hW13; go_simp
    replace f_b21 : w9.frozen? ⟨w.heap.size + 1, 1, none⟩ = false := by subst hW13; first | (simp only [World.frozen?_setCell]; with_reducible assumption) | go_simp
    replace b22 : w9.cell? ⟨w.heap.size + 1, 2, none⟩ = some (.slice aa58 ((delL s1 C).length) cc59) := by subst hW13; go_simp
    replace f_b22 : w9.frozen? ⟨w.heap.size + 1, 2, none⟩ = false := by subst hW13; first | (simp only [World.frozen?_setCell]; with_reducible assumption) | go_simp
    replace b260 := Kw9.cell (by omega) b260
    replace b261 := Kw9.cell (by omega) b261
    replace b262 := Kw9.cell (by omega) b262
    replace e450 := Kw9.cell (by omega) e450
    replace O22 := O22.chgN Kw9 (by omega)
    replace O23 := O23.chgN Kw9 (by omega)
    replace i55u := i55u.chg Kw9 (by omega)
    replace i55v := i55v.chg Kw9 (by omega)
    replace O57 := O57.chg Kw9 (by omega)
    clear Kw9
    have z_b1 : w.heap.size < w9.heap.size := qB b10
    have z_b2 : w.heap.size + 1 < w9.heap.size := qB b20
    have z_b26 : w4.heap.size < w9.heap.size := qB b260
    have z_e45 : bl3 < w9.heap.size := qB e450
    have s_w9 : w.heap.size ≤ w9.heap.size := Xw9.size
    clear hW13
    refine bodyPost_ret (v := .tuple #[.agg #[.int .i64 0, .slice afv54u ((delL s1 C).length) cfv54u, .slice aa58 ((delL s1 C).length) cc59], .bool true]) (by simp only [results, Try.results64]; go_simp) rfl ?_
    have hdg := dia_yes (dia_ok hdim.out hdim2.out hne.out hv6.out hv10.out hc17.out)
    rw [hdg]
    have hdt : diaT s1 t1 D C = t1.set D (v30 + v34) := by unfold diaT; rw [hv6.out, hv30.out, hv34.out]; exact congrArg _ (if_neg (by omega))
    refine ⟨.slice afv54u ((delL s1 C).length) cfv54u, .slice aa58 ((delL s1 C).length) cc59, ?_, i55u.lower (by omega), ?_, (Xw9.trans qXt)⟩
    ·
     rw [show tidyB b1 (delL s1 C) = 0 by unfold tidyB; rw [if_pos hcl56]]
    ·
     rw [hdt, show tidyT (delL s1 C) (delL (t1.set D (v30 + v34)) C) = List.replicate (delL s1 C).length 0 by unfold tidyT; rw [if_pos hcl56]]
     exact (O57.ints (by simp; omega)).lower (by omega)
   ·
    refine (cleared_1 b1 _ _ (delL s1 C) (delL (t1.set D (v30 + v34)) C) _ _ _ (i55u.ext qXt) (i55v.ext qXt) hcl56).mono ?_
    rintro e w8 ⟨rfl, xw8⟩
    have Lw8 : Ext w7 w8 := Ext.trans qXt xw8
    have Xw8 : Ext w w8 := Xw7.trans Lw8
    replace b10 := Lw8.cell b10
    replace b11 := Lw8.cell b11
    replace b12 := Lw8.cell b12
    replace b20 := Lw8.cell b20
    replace b21 := Lw8.cell b21
    replace b22 := Lw8.cell b22
    replace f_b20 := Lw8.frz z_b2 f_b20
    replace f_b21 := Lw8.frz z_b2 f_b21
    replace f_b22 := Lw8.frz z_b2 f_b22
    replace b260 := Lw8.cell b260
    replace b261 := Lw8.cell b261
    replace b262 := Lw8.cell b262
    replace e450 := Lw8.cell e450
    have z_b1 : w.heap.size < w8.heap.size := qB b10
    have z_b2 : w.heap.size + 1 < w8.heap.size := qB b20
    have z_b26 : w4.heap.size < w8.heap.size := qB b260
    have z_e45 : bl3 < w8.heap.size := qB e450
    replace O22 := O22.ext Lw8
    replace O23 := O23.ext Lw8
    replace i55u := i55u.ext Lw8
    replace i55v := i55v.ext Lw8
    have s_w8 : w.heap.size ≤ w8.heap.size := Xw8.size
    have BL25_w8 : Ext w3 w8 := BL25_w7.trans Lw8
    clear xw8
    go_wp2_with fail
    generalize hW14 : (((w8.setCell ⟨w.heap.size + 1, 0, none⟩ (.int .i64 b1)).setCell ⟨w.heap.size + 1, 1, none⟩ (.slice afv54u ((delL s1 C).length) cfv54u)).setCell ⟨w.heap.size + 1, 2, none⟩ (.slice afv54v ((delL (t1.set D (v30 + v34)) C).length) cfv54v)) = w9 at *
    have Kw9 : Chg (w.heap.size + 1) (w.heap.size + 1 + 1) w8 w9 := by subst hW14; exact qCh
    have Xw9 : Ext w w9 := by subst hW14; exact qXt
    replace b10 := Kw9.cell (by omega) b10
    replace b11 := Kw9.cell (by omega) b11
    replace b12 := Kw9.cell (by omega) b12
    replace b20 : w9.cell? ⟨w.heap.size + 1, 0, none⟩ = some (.int .i64 b1) := by subst hW14; go_simp
    replace f_b20 : w9.frozen? ⟨w.heap.size + 1, 0, none⟩ = false := by subst hW14; first | (simp only [World.frozen?_setCell]; with_reducible assumption) | go_simp
    replace b21 : w9.cell? ⟨w.heap.size + 1, 1, none⟩ = some (.slice afv54u ((delL s1 C).length) cfv54u) := by subst hW14; go_simp
    replace f_b21 : w9.frozen? ⟨w.heap.size + 1, 1, none⟩ = false := by subst hW14; first | (simp only [World.frozen?_setCell]; with_reducible assumption) | go_simp
    replace b22 : w9.cell? ⟨w.heap.size + 1, 2, none⟩ = some (.slice afv54v ((delL (t1.set D (v30 + v34)) C).length) cfv54v) := by subst hW14; go_simp
    replace f_b22 : w9.frozen? ⟨w.heap.size + 1, 2, none⟩ = false := by subst hW14; first | (simp only [World.frozen?_setCell]; with_reducible assumption) | go_simp
    replace b260 := Kw9.cell (by omega) b260
    replace b261 := Kw9.cell (by omega) b261
    replace b262 := Kw9.cell (by omega) b262
    replace e450 := Kw9.cell (by omega) e450
    replace O22 := O22.chgN Kw9 (by omega)
    replace O23 := O23.chgN Kw9 (by omega)
    replace i55u := i55u.chg Kw9 (by omega)
    replace i55v := i55v.chg Kw9 (by omega)
    clear Kw9
    have z_b1 : w.heap.size < w9.heap.size := qB b10
    have z_b2 : w.heap.size + 1 < w9.heap.size := qB b20
    have z_b26 : w4.heap.size < w9.heap.size := qB b260
    have z_e45 : bl3 < w9.heap.size := qB e450
    have s_w9 : w.heap.size ≤ w9.heap.size := Xw9.size
    clear hW14
    refine bodyPost_ret (v := .tuple #[.agg #[.int .i64 b1, .slice afv54u ((delL s1 C).length) cfv54u, .slice afv54v ((delL (t1.set D (v30 + v34)) C).length) cfv54v], .bool true]) (by simp only [results, Try.results64]; go_simp) rfl ?_
    have hdg := dia_yes (dia_ok hdim.out hdim2.out hne.out hv6.out hv10.out hc17.out)
    rw [hdg]
    have hdt : diaT s1 t1 D C = t1.set D (v30 + v34) := by unfold diaT; rw [hv6.out, hv30.out, hv34.out]; exact congrArg _ (if_neg (by omega))
    refine ⟨.slice afv54u ((delL s1 C).length) cfv54u, .slice afv54v ((delL (t1.set D (v30 + v34)) C).length) cfv54v, ?_, i55u.lower (by omega), ?_, (Xw9.trans qXt)⟩
    ·
     rw [show tidyB b1 (delL s1 C) = b1 by unfold tidyB; rw [if_neg hcl56]]
    ·
     rw [hdt, show tidyT (delL s1 C) (delL (t1.set D (v30 + v34)) C) = delL (t1.set D (v30 + v34)) C by unfold tidyT; rw [if_neg hcl56]]
     exact i55v.lower (by omega)
 ·
  have hc17e : ((v6 : Int) == (v10 : Int)) = false := by simpa using hc17
  have hc17n : ((v6 : Int) != (v10 : Int)) = true := by simpa using hc17
  replace hc17 := Lib.hid hc17
  refine qTk (v := ?_) 26 rfl (.inl ⟨by rfl, ?_⟩) ?_
  rotate_left
  ·
   (intro w hSw; (try dsimp only at hSw); go_simp; try with_reducible rfl)
  try simp only [Act.put, qa, qb, qc, qD, qE, qF]
  refine qTk (v := ?_) 27 rfl (.inl ⟨by rfl, ?_⟩) ?_
  rotate_left
  ·
   (intro w hSw; (try dsimp only at hSw); go_simp; try with_reducible rfl)
  try simp only [Act.put, qa, qb, qc, qD, qE, qF]
  refine wpTail_done qKr ?_ _
  clear hHeld 
  go_wp2_with fail
  generalize hW15 : (((w3.setCell ⟨w.heap.size + 1, 0, none⟩ (.int .i64 0)).setCell ⟨w.heap.size + 1, 1, none⟩ (.slice none 0 0)).setCell ⟨w.heap.size + 1, 2, none⟩ (.slice none 0 0)) = w4 at *
  have Kw4 : Chg (w.heap.size + 1) (w.heap.size + 1 + 1) w3 w4 := by subst hW15; exact qCh
  have Xw4 : Ext w w4 := by subst hW15; exact qXt
  replace b10 := Kw4.cell (by omega) b10
  replace b11 := Kw4.cell (by omega) b11
  replace b12 := Kw4.cell (by omega) b12
  replace b20 : w4.cell? ⟨w.heap.size + 1, 0, none⟩ = some (.int .i64 0) := by subst hW15; go_simp
  replace f_b20 : w4.frozen? ⟨w.heap.size + 1, 0, none⟩ = false := by subst hW15; first | (simp only [World.frozen?_setCell]; with_reducible assumption) | go_simp
  replace b21 : w4.cell? ⟨w.heap.size + 1, 1, none⟩ = some (.slice none 0 0) := by subst hW15; go_simp
  replace f_b21 : w4.frozen? ⟨w.heap.size + 1, 1, none⟩ = false := by subst hW15; first | (simp only [World.frozen?_setCell]; with_reducible assumption) | go_simp
  replace b22 : w4.cell? ⟨w.heap.size + 1, 2, none⟩ = some (.slice none 0 0) := by subst hW15; go_simp
  replace f_b22 : w4.frozen? ⟨w.heap.size + 1, 2, none⟩ = false := by subst hW15; first | (simp only [World.frozen?_setCell]; with_reducible assumption) | go_simp
  replace e50 := Kw4.cell (by omega) e50
  replace e90 := Kw4.cell (by omega) e90
  clear Kw4
  have z_b1 : w.heap.size < w4.heap.size := qB b10
  have z_b2 : w.heap.size + 1 < w4.heap.size := qB b20
  have z_e5 : bl3 < w4.heap.size := qB e50
  have z_e9 : bl3 < w4.heap.size := qB e90
  have s_w4 : w.heap.size ≤ w4.heap.size := Xw4.size
  clear hW15
  refine bodyPost_ret (v := .tuple #[.agg #[.int .i64 0, .slice none 0 0, .slice none 0 0], .bool false]) (by simp only [results, Try.results64]; go_simp) rfl ?_
  rw [show diaV b1 s1 t1 (D : Int) (C : Int) = noV from dia_no4 hv6.out hv10.out hc17.out]
  exact PVWB.no (Xw4.trans qXt)

set_option maxHeartbeats 1600000 in
theorem implDiagonalOf_c (b1 : Int) (u1 v1 : Value) (s1 t1 : List Int) (d f : Int) (w : World) (l1 m1 : Nat) (h1 : Ints w l1 u1 s1) (k1 : Ints w m1 v1 t1) :
  Calls Try.prog 64 #[.agg #[.int .i64 b1, u1, v1], .int .i64 d, .int .i64 f] w (PVX w (diaV b1 s1 t1 d f)) := by
 cases hdim : dimB b1 s1 t1 d with
 | false => exact implDia_0 b1 u1 v1 s1 t1 d f w l1 m1 h1 k1 hdim
 | true =>
  obtain ⟨_, h0, _⟩ := dim_in hdim
  obtain ⟨D, rfl⟩ : ∃ D : Nat, d = D := ⟨d.toNat, by omega⟩
  cases hdim2 : dimB b1 s1 t1 f with
  | false => exact implDia_1 b1 u1 v1 s1 t1 D f w l1 m1 h1 k1 hdim hdim2
  | true =>
   obtain ⟨_, h2, _⟩ := dim_in hdim2
   obtain ⟨C, rfl⟩ : ∃ C : Nat, f = C := ⟨f.toNat, by omega⟩
   by_cases hne : (D : Int) = (C : Int)
   ·
    exact implDia_2 b1 u1 v1 s1 t1 D C w l1 m1 h1 k1 hdim hdim2 hne
   ·
    exact implDia_3 b1 u1 v1 s1 t1 D C w l1 m1 h1 k1 hdim hdim2 hne


end Go.Proofs.Ytonnnjaooifpjaa

/- Walks: without of the reference and of the laws. -/
namespace Go.Proofs.Ytonnnjaooifpjaa
open Go.RowKit
set_option linter.unusedVariables false
set_option maxRecDepth 100000

set_option maxHeartbeats 3200000 in
theorem swithout_c (xs : List Int) (v : Value) (i : Nat) (w : World) (lo : Nat) (hv : Ints w lo v xs) (hi : i < xs.length) (hl : xs.length ≤ 1000) :
    Calls Try.prog 92 #[v, .int .i64 (i : Int)] w (PInts w (delL xs i)) := by
  obtain ⟨a, c, rfl⟩ := hv.form
  have hcap := hv.capLe
  obtain ⟨b, off, rfl, hq0⟩ := hv.at 0 (by omega)
  clear hq0
  have ht := hv.take i (by omega)
  have g1 : (i : Int) ≤ c := by omega
  have g2 : (i : Int) + 1 ≤ xs.length := by omega
  have g3 : (0 : Int) ≤ (i : Int) + 1 := by omega
  have g4 : (i : Int) + 1 ≤ c := by omega
  have g6 : (i : Int) ≤ (i : Int) + 1 := by omega
  have g5 : IntKind.i64.wrap ((i : Int) + 1) = (i : Int) + 1 := IntWalk.i64_in _ (by omega)
  have hdl := delL_len xs i hi
  replace hdl := Lib.hid hdl
  by_cases hci : c = i + 1
  · have hd := hv.drop0 (i + 1) (by omega) hci
    rw [show xs.length - (i + 1) = 0 by omega] at hd
    subst hci
    go_enter Try.func92, Try.ntmps92
    go_wp2_with fail
    refine wp_region_held_drew (S := fun _ => True) qKr trivial (fun hHeld => ?_)
    refine qHk (v := ?_) 1 rfl (.inl ⟨by rfl, ?_⟩) ?_
    rotate_left
    · (intro w hSw; (try dsimp only at hSw); go_simp; try with_reducible rfl)
    try simp only [Act.put, qa, qb, qc, qD, qE, qF]
    refine qHk (v := ?_) 2 rfl (.inl ⟨by rfl, ?_⟩) ?_
    rotate_left
    · (intro w hSw; (try dsimp only at hSw); go_simp; try with_reducible rfl)
    try simp only [Act.put, qa, qb, qc, qD, qE, qF]
    refine qHk (v := ?_) 3 rfl (.inl ⟨by rfl, ?_⟩) ?_
    rotate_left
    · (intro w hSw; (try dsimp only at hSw); go_simp; try with_reducible rfl)
    try simp only [Act.put, qa, qb, qc, qD, qE, qF]
    refine qHk (v := ?_) 5 rfl (.inl ⟨by rfl, ?_⟩) ?_
    rotate_left
    · (intro w hSw; (try dsimp only at hSw); go_simp; try with_reducible rfl)
    try simp only [Act.put, qa, qb, qc, qD, qE, qF]
    refine qHk (v := ?_) 6 rfl (.inl ⟨by rfl, ?_⟩) ?_
    rotate_left
    · (intro w hSw; (try dsimp only at hSw); go_simp; try with_reducible rfl)
    try simp only [Act.put, qa, qb, qc, qD, qE, qF]
    refine qHk (v := ?_) 7 rfl (.inl ⟨by rfl, ?_⟩) ?_
    rotate_left
    · (intro w hSw; (try dsimp only at hSw); go_simp; try with_reducible rfl)
    try simp only [Act.put, qa, qb, qc, qD, qE, qF]
    refine qHk (v := ?_) 8 rfl (.inl ⟨by rfl, ?_⟩) ?_
    rotate_left
    · (intro w hSw; (try dsimp only at hSw); go_simp; try with_reducible rfl)
    try simp only [Act.put, qa, qb, qc, qD, qE, qF]
    refine qHr 0 rfl (fun K hK => ?_)
    try simp only [Act.put, qa, qb, qc, qD, qE, qF]
    go_simp
    refine hK.out _ _ trivial (fun hHeld => ?_)
    clear hK K
    try simp only [Act.put, qa, qb, qc, qD, qE, qF]
    refine qHr 4 rfl (fun K hK => ?_)
    refine step_app rfl (.tmp 5) (.tmp 8) rfl rfl rfl (OwnI.lit0 _ w.heap.size (by simp)) (ht.ext qXo) (by simp <;> omega) (by first | assumption | (simp; done) | (simp; omega) | omega) ?_
    intro v4 w4 o4 gr4 bl4 eq4
    refine hK.out _ _ trivial (fun hHeld => ?_)
    clear hK K
    try simp only [Act.put, qa, qb, qc, qD, qE, qF]
    have X4 : Ext w w4 := Ext.below (show Ext w _ from qXo) bl4 (by simp)
    have z4 : w.heap.size ≤ w4.heap.size := X4.size
    refine qHr 9 rfl (fun K hK => ?_)
    refine step_app rfl (.tmp 9) (.tmp 13) rfl rfl rfl (o4) (hd.ext X4) (by simp <;> omega) (by first | assumption | (simp; done) | (simp; omega) | omega) ?_
    intro v9 w9 o9 gr9 bl9 eq9
    refine hK.out _ _ trivial (fun hHeld => ?_)
    clear hK K
    try simp only [Act.put, qa, qb, qc, qD, qE, qF]
    have X9 : Ext w w9 := Ext.below X4 bl9 (Nat.le_refl _)
    refine qHr 10 rfl (fun K hK => ?_)
    try simp only [Act.put, qa, qb, qc, qD, qE, qF]
    go_simp
    refine hK.out _ _ trivial (fun hHeld => ?_)
    clear hK K
    try simp only [Act.put, qa, qb, qc, qD, qE, qF]
    refine wpAnyH_done qKr ?_ _
    clear hHeld
    go_wp2_with fail
    refine bodyPost_ret (v := v9) (by simp only [results, Try.results92]; go_simp) rfl ?_
    exact PInts.mkz (by simpa [delL] using o9.z) (Nat.le_refl _) (by rw [hdl.out]; omega) X9
  · have hd := hv.drop1 (i + 1) (by omega) hci
    go_enter Try.func92, Try.ntmps92
    go_wp2_with fail
    refine wp_region_held_drew (S := fun _ => True) qKr trivial (fun hHeld => ?_)
    refine qHk (v := ?_) 1 rfl (.inl ⟨by rfl, ?_⟩) ?_
    rotate_left
    · (intro w hSw; (try dsimp only at hSw); go_simp; try with_reducible rfl)
    try simp only [Act.put, qa, qb, qc, qD, qE, qF]
    refine qHk (v := ?_) 2 rfl (.inl ⟨by rfl, ?_⟩) ?_
    rotate_left
    · (intro w hSw; (try dsimp only at hSw); go_simp; try with_reducible rfl)
    try simp only [Act.put, qa, qb, qc, qD, qE, qF]
    refine qHk (v := ?_) 3 rfl (.inl ⟨by rfl, ?_⟩) ?_
    rotate_left
    · (intro w hSw; (try dsimp only at hSw); go_simp; try with_reducible rfl)
    try simp only [Act.put, qa, qb, qc, qD, qE, qF]
    refine qHk (v := ?_) 5 rfl (.inl ⟨by rfl, ?_⟩) ?_
    rotate_left
    · (intro w hSw; (try dsimp only at hSw); go_simp; try with_reducible rfl)
    try simp only [Act.put, qa, qb, qc, qD, qE, qF]
    refine qHk (v := ?_) 6 rfl (.inl ⟨by rfl, ?_⟩) ?_
    rotate_left
    · (intro w hSw; (try dsimp only at hSw); go_simp; try with_reducible rfl)
    try simp only [Act.put, qa, qb, qc, qD, qE, qF]
    refine qHk (v := ?_) 7 rfl (.inl ⟨by rfl, ?_⟩) ?_
    rotate_left
    · (intro w hSw; (try dsimp only at hSw); go_simp; try with_reducible rfl)
    try simp only [Act.put, qa, qb, qc, qD, qE, qF]
    refine qHk (v := ?_) 8 rfl (.inl ⟨by rfl, ?_⟩) ?_
    rotate_left
    · (intro w hSw; (try dsimp only at hSw); go_simp; try with_reducible rfl)
    try simp only [Act.put, qa, qb, qc, qD, qE, qF]
    refine qHr 0 rfl (fun K hK => ?_)
    try simp only [Act.put, qa, qb, qc, qD, qE, qF]
    go_simp
    refine hK.out _ _ trivial (fun hHeld => ?_)
    clear hK K
    try simp only [Act.put, qa, qb, qc, qD, qE, qF]
    refine qHr 4 rfl (fun K hK => ?_)
    refine step_app rfl (.tmp 5) (.tmp 8) rfl rfl rfl (OwnI.lit0 _ w.heap.size (by simp)) (ht.ext qXo) (by simp <;> omega) (by first | assumption | (simp; done) | (simp; omega) | omega) ?_
    intro v4 w4 o4 gr4 bl4 eq4
    refine hK.out _ _ trivial (fun hHeld => ?_)
    clear hK K
    try simp only [Act.put, qa, qb, qc, qD, qE, qF]
    have X4 : Ext w w4 := Ext.below (show Ext w _ from qXo) bl4 (by simp)
    have z4 : w.heap.size ≤ w4.heap.size := X4.size
    refine qHr 9 rfl (fun K hK => ?_)
    refine step_app rfl (.tmp 9) (.tmp 13) rfl rfl rfl (o4) (hd.ext X4) (by simp <;> omega) (by first | assumption | (simp; done) | (simp; omega) | omega) ?_
    intro v9 w9 o9 gr9 bl9 eq9
    refine hK.out _ _ trivial (fun hHeld => ?_)
    clear hK K
    try simp only [Act.put, qa, qb, qc, qD, qE, qF]
    have X9 : Ext w w9 := Ext.below X4 bl9 (Nat.le_refl _)
    refine qHr 10 rfl (fun K hK => ?_)
    try simp only [Act.put, qa, qb, qc, qD, qE, qF]
    go_simp
    refine hK.out _ _ trivial (fun hHeld => ?_)
    clear hK K
    try simp only [Act.put, qa, qb, qc, qD, qE, qF]
    refine wpAnyH_done qKr ?_ _
    clear hHeld
    go_wp2_with fail
    refine bodyPost_ret (v := v9) (by simp only [results, Try.results92]; go_simp) rfl ?_
    exact PInts.mkz (by simpa [delL] using o9.z) (Nat.le_refl _) (by rw [hdl.out]; omega) X9

end Go.Proofs.Ytonnnjaooifpjaa

/- Walks: PickDim of the reference. -/
namespace Go.Proofs.Ytonnnjaooifpjaa
open Go.RowKit
set_option linter.unusedVariables false
set_option maxRecDepth 100000


theorem made_yes {b : Int} {s t : List Int} (h : viewB b s t = true) : madeV b s t = (b, s, t, true) := by unfold madeV; rw [h]; rfl

end Go.Proofs.Ytonnnjaooifpjaa

/- Walks: copies that are rows. -/
namespace Go.Proofs.Ytonnnjaooifpjaa
open Go.RowKit
set_option linter.unusedVariables false
set_option maxRecDepth 100000

set_option maxHeartbeats 1600000 in
theorem copyIntsO_c (v3 : Value) (u : List Int) (w : World) (l3 : Nat) (h3 : Ints w l3 v3 u) :
    Calls Try.prog 82 #[v3] w (PIntsO w u) := by
  obtain ⟨p2, c2, rfl⟩ := h3.form
  go_enter Try.func82, Try.ntmps82
  have BL6 : Ext w w := Ext.refl _
  have hln1 : u.length ≤ 4194304 := (h3).len
  go_wp2_with (at_builtin; refine wpList_app0O rfl (.tmp 3) (.tmp 4) rfl rfl rfl (OwnI.lit0 (w) w.heap.size (by simp)) (by simp) (h3.ext qXt) ?_)
  intro gr3 rr4 w1 O2 xw1 hg7 Ggr3'
  replace xw1 : Ext w w1 := Ext.trans qXt xw1
  have Ggr3 : w.heap.size ≤ gr3 := by (try simp only [World.size_alloc, World.size_drew] at hg7); omega
  clear hg7
  have Lw1 : Ext w w1 := Ext.trans qXt xw1
  have Xw1 : Ext w w1 := Lw1
  have s_w1 : w.heap.size ≤ w1.heap.size := Xw1.size
  have BL6_w1 : Ext w w1 := BL6.trans Lw1
  clear xw1
  go_wp2_with fail
  go_ret
  exact ⟨_, _, rfl, O2.lower (by omega), by omega, Ggr3', Xw1⟩



end Go.Proofs.Ytonnnjaooifpjaa

/- Walks: copies of views of the reference that are rows. -/
namespace Go.Proofs.Ytonnnjaooifpjaa
open Go.RowKit
set_option linter.unusedVariables false
set_option maxRecDepth 100000

set_option maxHeartbeats 1600000 in
theorem scopyViewO_c (b1 : Int) (u1 v1 : Value) (s1 t1 : List Int) (w : World) (l1 m1 : Nat) (h1 : Ints w l1 u1 s1) (k1 : Ints w m1 v1 t1) :
    Calls Try.prog 105 #[.agg #[.int .i64 b1, u1, v1]] w (PViewO w b1 s1 t1) := by
  obtain ⟨p0, c0, rfl⟩ := h1.form
  obtain ⟨p1, c1, rfl⟩ := k1.form
  go_enter Try.func105, Try.ntmps105
  go_wp2_with fail
  generalize hW1 : (w.alloc (.cells #[.int .i64 b1, .slice p0 s1.length c0, .slice p1 t1.length c1] 25)).alloc (.cells #[.int .i64 0, .slice none 0 0, .slice none 0 0] 25) = w1 at *
  have Lw1 : Ext w w1 := by subst hW1; exact qXt
  have Xw1 : Ext w w1 := by subst hW1; exact Lw1
  have b10 : w1.cell? ⟨w.heap.size, 0, none⟩ = some (.int .i64 b1) := by subst hW1; exact qCl
  have b11 : w1.cell? ⟨w.heap.size, 1, none⟩ = some (.slice p0 s1.length c0) := by subst hW1; exact qCl
  have b12 : w1.cell? ⟨w.heap.size, 2, none⟩ = some (.slice p1 t1.length c1) := by subst hW1; exact qCl
  have b20 : w1.cell? ⟨w.heap.size + 1, 0, none⟩ = some (.int .i64 0) := by subst hW1; exact qCl
  have b21 : w1.cell? ⟨w.heap.size + 1, 1, none⟩ = some (.slice none 0 0) := by subst hW1; exact qCl
  have b22 : w1.cell? ⟨w.heap.size + 1, 2, none⟩ = some (.slice none 0 0) := by subst hW1; exact qCl
  have f_b20 : w1.frozen? ⟨w.heap.size + 1, 0, none⟩ = false := by subst hW1; exact qFz
  have f_b21 : w1.frozen? ⟨w.heap.size + 1, 1, none⟩ = false := by subst hW1; exact qFz
  have f_b22 : w1.frozen? ⟨w.heap.size + 1, 2, none⟩ = false := by subst hW1; exact qFz
  have z_b1 : w.heap.size < w1.heap.size := qB b10
  have z_b2 : w.heap.size + 1 < w1.heap.size := qB b20
  have s_w1 : w.heap.size ≤ w1.heap.size := Xw1.size
  clear hW1
  have Q3_b10 := Lib.hid b10
  have Q3_b11 := Lib.hid b11
  have Q3_b12 := Lib.hid b12
  have Q3_zb1 := z_b1
  have Q3_b20 := Lib.hid b20
  have Q3_f_b20 := Lib.hid f_b20
  have Q3_b21 := Lib.hid b21
  have Q3_f_b21 := Lib.hid f_b21
  have Q3_b22 := Lib.hid b22
  have Q3_f_b22 := Lib.hid f_b22
  have Q3_zb2 := z_b2
  have BL4 : Ext w1 w1 := Ext.refl _
  go_cut [] (fun  wx => ∃ (g4 : Nat) (r4 : Nat) (g7 : Nat) (r7 : Nat), Chg (w.heap.size + 1) (w.heap.size + 1 + 1) w1 wx ∧ w1.heap.size ≤ g4 ∧ g4 < wx.heap.size ∧ w1.heap.size ≤ g7 ∧ g7 < wx.heap.size ∧ g4 ≠ g7 ∧ OwnI wx w1.heap.size (.slice (some ⟨g4, 0, none⟩) s1.length r4) s1 ∧ OwnI wx w1.heap.size (.slice (some ⟨g7, 0, none⟩) t1.length r7) t1 ∧ wx.cell? ⟨w.heap.size + 1, 0, none⟩ = some (.int .i64 b1) ∧ wx.frozen? ⟨w.heap.size + 1, 0, none⟩ = false ∧ wx.cell? ⟨w.heap.size + 1, 1, none⟩ = some (.slice (some ⟨g4, 0, none⟩) s1.length r4) ∧ wx.frozen? ⟨w.heap.size + 1, 1, none⟩ = false ∧ wx.cell? ⟨w.heap.size + 1, 2, none⟩ = some (.slice (some ⟨g7, 0, none⟩) t1.length r7) ∧ wx.frozen? ⟨w.heap.size + 1, 2, none⟩ = false)
  case first =>
    have X1 : Ext w1 w1 := Ext.refl _
    refine wp_region_held_drew (S := fun w' => w'.cell? ⟨w.heap.size, 0, none⟩ = some (.int .i64 b1) ∧ w'.cell? ⟨w.heap.size, 1, none⟩ = some (.slice p0 s1.length c0) ∧ w'.cell? ⟨w.heap.size, 2, none⟩ = some (.slice p1 t1.length c1)) qKr ⟨b10, b11, b12⟩ (fun hHeld => ?_)
    refine qHk (v := ?_) 0 rfl (.inl ⟨by rfl, ?_⟩) ?_
    rotate_left
    · (intro w hSw; (try dsimp only at hSw); go_simp; try with_reducible rfl)
    try simp only [Act.put, qa, qb, qc, qD, qE, qF]
    refine qHk (v := ?_) 1 rfl (.inl ⟨by rfl, ?_⟩) ?_
    rotate_left
    · (intro w hSw; (try dsimp only at hSw); go_simp; try with_reducible rfl)
    try simp only [Act.put, qa, qb, qc, qD, qE, qF]
    refine qHk (v := ?_) 2 rfl (.inl ⟨by rfl, ?_⟩) ?_
    rotate_left
    · (intro w hSw; (try dsimp only at hSw); go_simp; try with_reducible rfl)
    try simp only [Act.put, qa, qb, qc, qD, qE, qF]
    refine qHk (v := ?_) 3 rfl (.inl ⟨by rfl, ?_⟩) ?_
    rotate_left
    · (intro w hSw; (try dsimp only at hSw); go_simp; try with_reducible rfl)
    try simp only [Act.put, qa, qb, qc, qD, qE, qF]
    refine qHk (v := ?_) 5 rfl (.inl ⟨by rfl, ?_⟩) ?_
    rotate_left
    · (intro w hSw; (try dsimp only at hSw); go_simp; try with_reducible rfl)
    try simp only [Act.put, qa, qb, qc, qD, qE, qF]
    refine qHk (v := ?_) 6 rfl (.inl ⟨by rfl, ?_⟩) ?_
    rotate_left
    · (intro w hSw; (try dsimp only at hSw); go_simp; try with_reducible rfl)
    try simp only [Act.put, qa, qb, qc, qD, qE, qF]
    refine qHr 4 rfl (fun K hK => ?_)
    try simp only [Act.put, qa, qb, qc, qD, qE, qF]
    go_simp
    refine (copyIntsO_c (.slice p0 s1.length c0) s1 _ _ (h1.ext (Xw1.trans qXt))).mono ?_
    rintro e w1_1 ⟨g1_4, r1_5, rfl, O1_3, Gg1_4, Hg1_4, x1_2⟩
    simp only [World.size_drew] at Gg1_4 O1_3
    replace x1_2 : Ext w1 w1_1 := Ext.trans qXt x1_2
    have S_w1_1 : w1.heap.size ≤ w1_1.heap.size := x1_2.size
    replace X1 := X1.trans x1_2
    have Yw1_1 := Ext.refl w1_1
    clear x1_2
    refine hK.out _ w1_1 ⟨(show Ext w1 w1_1 from qXt).cell b10, (show Ext w1 w1_1 from qXt).cell b11, (show Ext w1 w1_1 from qXt).cell b12⟩ (fun hHeld => ?_)
    clear hK K
    try simp only [Act.put, qa, qb, qc, qD, qE, qF]
    refine qHr 7 rfl (fun K hK => ?_)
    try simp only [Act.put, qa, qb, qc, qD, qE, qF]
    go_simp
    refine (copyIntsO_c (.slice p1 t1.length c1) t1 _ _ (k1.ext (Xw1.trans qXt))).mono ?_
    rintro e w1_6 ⟨g1_9, r1_10, rfl, O1_8, Gg1_9, Hg1_9, x1_7⟩
    replace x1_7 : Ext w1_1 w1_6 := Ext.trans qXt x1_7
    have S_w1_6 : w1_1.heap.size ≤ w1_6.heap.size := x1_7.size
    replace Yw1_1 := Yw1_1.trans x1_7
    replace X1 := X1.trans x1_7
    have Yw1_6 := Ext.refl w1_6
    clear x1_7
    refine hK.out _ w1_6 ⟨(show Ext w1 w1_6 from qXt).cell b10, (show Ext w1 w1_6 from qXt).cell b11, (show Ext w1 w1_6 from qXt).cell b12⟩ (fun hHeld => ?_)
    clear hK K
    try simp only [Act.put, qa, qb, qc, qD, qE, qF]
    refine qHk (v := ?_) 8 rfl (.inl ⟨by rfl, ?_⟩) ?_
    rotate_left
    · (intro w hSw; (try dsimp only at hSw); go_simp; try with_reducible rfl)
    try simp only [Act.put, qa, qb, qc, qD, qE, qF]
    refine qHr 9 rfl (fun K hK => ?_)
    try simp only [Act.put, qa, qb, qc, qD, qE, qF]
    replace b20 := X1.cell b20
    replace f_b20 := X1.frz z_b2 f_b20
    replace b21 := X1.cell b21
    replace f_b21 := X1.frz z_b2 f_b21
    replace b22 := X1.cell b22
    replace f_b22 := X1.frz z_b2 f_b22
    go_simp
    have zz := X1.size
    have K1 : Chg (w.heap.size + 1) (w.heap.size + 1 + 1) w1_6 (((w1_6.setCell ⟨w.heap.size + 1, 0, none⟩ (.int .i64 b1)).setCell ⟨w.heap.size + 1, 1, none⟩ (.slice (some ⟨g1_4, 0, none⟩) s1.length r1_5)).setCell ⟨w.heap.size + 1, 2, none⟩ (.slice (some ⟨g1_9, 0, none⟩) t1.length r1_10)) := (Chg.setCell (p := ⟨w.heap.size + 1, 2, none⟩) (Chg.setCell (p := ⟨w.heap.size + 1, 1, none⟩) (Chg.setCell (p := ⟨w.heap.size + 1, 0, none⟩) (Chg.refl (w.heap.size + 1) ((w.heap.size + 1) + 1) w1_6) (Nat.le_refl _) (Nat.lt_succ_self _) _) (Nat.le_refl _) (Nat.lt_succ_self _) _) (Nat.le_refl _) (Nat.lt_succ_self _) _)
    have n_b20 : (((w1_6.setCell ⟨w.heap.size + 1, 0, none⟩ (.int .i64 b1)).setCell ⟨w.heap.size + 1, 1, none⟩ (.slice (some ⟨g1_4, 0, none⟩) s1.length r1_5)).setCell ⟨w.heap.size + 1, 2, none⟩ (.slice (some ⟨g1_9, 0, none⟩) t1.length r1_10)).cell? ⟨w.heap.size + 1, 0, none⟩ = some (.int .i64 b1) := by go_simp
    replace f_b20 : (((w1_6.setCell ⟨w.heap.size + 1, 0, none⟩ (.int .i64 b1)).setCell ⟨w.heap.size + 1, 1, none⟩ (.slice (some ⟨g1_4, 0, none⟩) s1.length r1_5)).setCell ⟨w.heap.size + 1, 2, none⟩ (.slice (some ⟨g1_9, 0, none⟩) t1.length r1_10)).frozen? ⟨w.heap.size + 1, 0, none⟩ = false := by go_simp
    have n_b21 : (((w1_6.setCell ⟨w.heap.size + 1, 0, none⟩ (.int .i64 b1)).setCell ⟨w.heap.size + 1, 1, none⟩ (.slice (some ⟨g1_4, 0, none⟩) s1.length r1_5)).setCell ⟨w.heap.size + 1, 2, none⟩ (.slice (some ⟨g1_9, 0, none⟩) t1.length r1_10)).cell? ⟨w.heap.size + 1, 1, none⟩ = some (.slice (some ⟨g1_4, 0, none⟩) s1.length r1_5) := by go_simp
    replace f_b21 : (((w1_6.setCell ⟨w.heap.size + 1, 0, none⟩ (.int .i64 b1)).setCell ⟨w.heap.size + 1, 1, none⟩ (.slice (some ⟨g1_4, 0, none⟩) s1.length r1_5)).setCell ⟨w.heap.size + 1, 2, none⟩ (.slice (some ⟨g1_9, 0, none⟩) t1.length r1_10)).frozen? ⟨w.heap.size + 1, 1, none⟩ = false := by go_simp
    have n_b22 : (((w1_6.setCell ⟨w.heap.size + 1, 0, none⟩ (.int .i64 b1)).setCell ⟨w.heap.size + 1, 1, none⟩ (.slice (some ⟨g1_4, 0, none⟩) s1.length r1_5)).setCell ⟨w.heap.size + 1, 2, none⟩ (.slice (some ⟨g1_9, 0, none⟩) t1.length r1_10)).cell? ⟨w.heap.size + 1, 2, none⟩ = some (.slice (some ⟨g1_9, 0, none⟩) t1.length r1_10) := by go_simp
    replace f_b22 : (((w1_6.setCell ⟨w.heap.size + 1, 0, none⟩ (.int .i64 b1)).setCell ⟨w.heap.size + 1, 1, none⟩ (.slice (some ⟨g1_4, 0, none⟩) s1.length r1_5)).setCell ⟨w.heap.size + 1, 2, none⟩ (.slice (some ⟨g1_9, 0, none⟩) t1.length r1_10)).frozen? ⟨w.heap.size + 1, 2, none⟩ = false := by go_simp
    replace O1_3 := (O1_3.ext Yw1_1).chgN K1 (by omega)
    replace O1_8 := (O1_8.ext Yw1_6).chgN K1 (by omega)
    have C1 : Chg (w.heap.size + 1) (w.heap.size + 1 + 1) w1 (((w1_6.setCell ⟨w.heap.size + 1, 0, none⟩ (.int .i64 b1)).setCell ⟨w.heap.size + 1, 1, none⟩ (.slice (some ⟨g1_4, 0, none⟩) s1.length r1_5)).setCell ⟨w.heap.size + 1, 2, none⟩ (.slice (some ⟨g1_9, 0, none⟩) t1.length r1_10)) := (Chg.of_ext X1).trans K1
    clear zz K1
    have S_st : w1_6.heap.size ≤ (((w1_6.setCell ⟨w.heap.size + 1, 0, none⟩ (.int .i64 b1)).setCell ⟨w.heap.size + 1, 1, none⟩ (.slice (some ⟨g1_4, 0, none⟩) s1.length r1_5)).setCell ⟨w.heap.size + 1, 2, none⟩ (.slice (some ⟨g1_9, 0, none⟩) t1.length r1_10)).heap.size := by simp
    refine hK.out _ ((((w1_6.setCell ⟨w.heap.size + 1, 0, none⟩ (.int .i64 b1)).setCell ⟨w.heap.size + 1, 1, none⟩ (.slice (some ⟨g1_4, 0, none⟩) s1.length r1_5)).setCell ⟨w.heap.size + 1, 2, none⟩ (.slice (some ⟨g1_9, 0, none⟩) t1.length r1_10))) ⟨C1.cell (by omega) b10, C1.cell (by omega) b11, C1.cell (by omega) b12⟩ (fun hHeld => ?_)
    clear hK K
    try simp only [Act.put, qa, qb, qc, qD, qE, qF]
    refine wpAnyH_done qKr ?_ _
    clear hHeld
    have zz := X1.size
    go_step
    go_step
    go_meet
    case rel => exact ⟨g1_4, r1_5, g1_9, r1_10, C1, (by omega), (by omega), (by omega), (by omega), (by omega), (O1_3).lower (by omega), (O1_8).lower (by omega), n_b20, f_b20, n_b21, f_b21, n_b22, f_b22⟩
  case rest =>
    generalize wc = wc5 at hcut ⊢
    obtain ⟨g7, r8, g9, r10, xx6, Gg7, Hg7, Gg9, Hg9, Dg7g9, O11, O12, N_b20, M_b20, N_b21, M_b21, N_b22, M_b22⟩ := hcut
    have zc_wc5 := xx6.size
    have Xwc5 : Ext w wc5 := Ext.chg Xw1 xx6 (by omega)
    replace b10 := xx6.cell (by omega) b10
    replace b11 := xx6.cell (by omega) b11
    replace b12 := xx6.cell (by omega) b12
    replace b20 := N_b20
    clear N_b20
    replace f_b20 := M_b20
    clear M_b20
    replace b21 := N_b21
    clear N_b21
    replace f_b21 := M_b21
    clear M_b21
    replace b22 := N_b22
    clear N_b22
    replace f_b22 := M_b22
    clear M_b22
    have z_b1 : w.heap.size < wc5.heap.size := qB b10
    have z_b2 : w.heap.size + 1 < wc5.heap.size := qB b20
    have s_wc5 : w.heap.size ≤ wc5.heap.size := Xwc5.size
    clear xx6
    go_wp2_with fail
    refine bodyPost_ret (v := .agg #[.int .i64 b1, .slice (some ⟨g7, 0, none⟩) s1.length r8, .slice (some ⟨g9, 0, none⟩) t1.length r10]) (by simp only [results, Try.results105]; go_simp) rfl ?_
    exact ⟨g7, g9, _, _, rfl, O11.lower (by omega), O12.lower (by omega), by omega, by omega, by omega, by omega, by omega, (Xwc5.trans qXt)⟩


end Go.Proofs.Ytonnnjaooifpjaa
