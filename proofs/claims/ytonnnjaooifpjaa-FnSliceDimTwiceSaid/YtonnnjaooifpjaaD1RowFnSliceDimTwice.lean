/- Texts of these proofs put together: KitC, DelA, DelB, LvA, LvB, LvF, LvE, LvH, LvG, LvI, LvJ, PureP, PureS, DelC, DrB, DrE, DrG, DrK, LvK, LvM. No condition. -/
import Derived.Test.YtonnnjaooifpjaaM3
import Derived.Test.YtonnnjaooifpjaaM1
import Derived.Test.YtonnnjaooifpjaaM2
import Derived.Test.YtonnnjaooifpjaaM4
set_option linter.unusedVariables false
set_option linter.unusedSimpArgs false
/- Helpers of walks: capacities, two rows that grow. -/
namespace Go.Proofs.Ytonnnjaooifpjaa
open Go.RowKit
set_option linter.unusedVariables false

theorem Ints.capLe {w : World} {lo : Nat} {a : Option Addr} {n c : Nat} {xs : List Int} (h : Ints w lo (.slice a n c) xs) : n ≤ c ∧ c ≤ maxLen := by
  obtain ⟨a', c', e, h1, h2, _⟩ := h
  cases e
  exact ⟨h1, h2⟩
theorem PViewB.two {w w' : World} {B : Nat} {b : Int} {s t : List Int} {v1 v2 : Value} (T : Two B w' v1 v2 s t) (hB : w.heap.size ≤ B) (hs : s.length ≤ 1000) (ht : t.length ≤ 1000) (hx : Ext w w') :
    PViewB w b s t true (.returned (.tuple #[.agg #[.int .i64 b, v1, v2], .bool true])) w' :=
  ⟨_, _, rfl, (T.o1.ints (by omega)).lower hB, (T.o2.ints (by omega)).lower hB, (T.o1.lower hB).z, (T.o2.lower hB).z,
    (fun n1 n2 h => by obtain ⟨g, _, h1, _⟩ := (T.o1).row n1; rw [h1] at h; exact T.sep g (by rw [h1]; rfl) (h ▸ rfl)), hx⟩
theorem pi_eq {w w0 : World} {xs ys : List Int} {f : Nat} {args : Array Value} (he : xs = ys) (h : Calls Try.prog f args w (PInts w0 xs)) : Calls Try.prog f args w (PInts w0 ys) := he ▸ h
theorem pv_eq {w w0 : World} {x : VBool} {B : Int} {S T : List Int} {o : Bool} {f : Nat} {args : Array Value} (he : x = (B, S, T, o)) (h : Calls Try.prog f args w (PVB w0 x)) : Calls Try.prog f args w (PViewB w0 B S T o) := by subst he; exact h
end Go.Proofs.Ytonnnjaooifpjaa

/- Walks: slices.Delete of one number of a row of one's own. -/
namespace Go.Proofs.Ytonnnjaooifpjaa
open Go.RowKit
set_option linter.unusedVariables false
set_option maxRecDepth 100000

def delL (xs : List Int) (i : Nat) : List Int := xs.take i ++ xs.drop (i + 1)
theorem delL_len (xs : List Int) (i : Nat) (h : i < xs.length) : (delL xs i).length = xs.length - 1 := by unfold delL; simp; omega
theorem setCells_chg (g : Nat) : ∀ (vs : List Value) (o : Nat) (w : World), Chg g (g + 1) w (w.setCells g o vs)
  | [], _, w => Chg.refl _ _ _
  | v :: r, o, w => by
    have h1 : Chg g (g + 1) w (w.setCell ⟨g, o, none⟩ v) := Chg.setCell (p := ⟨g, o, none⟩) (Chg.refl g (g + 1) _) (Nat.le_refl _) (Nat.lt_succ_self _) v
    exact h1.trans (setCells_chg g r (o + 1) _)
theorem setCells_frz (g : Nat) : ∀ (vs : List Value) (o : Nat) (w : World) (a : Addr), (w.setCells g o vs).frozen? a = w.frozen? a
  | [], _, _, _ => rfl
  | v :: r, o, w, a => by
    rw [World.setCells, setCells_frz g r (o + 1) _ a]
    first | (simp; done) | go_simp
set_option maxHeartbeats 1600000 in
theorem delete_c (xs : List Int) (g n c B i : Nat) (w : World) (O : OwnI w B (.slice (some ⟨g, 0, none⟩) n c) xs) (hi : i < xs.length) (hl : xs.length ≤ 1000) :
    Calls Try.prog 90 #[.slice (some ⟨g, 0, none⟩) n c, .int .i64 (i : Int), .int .i64 ((i : Int) + 1)] w fun e w' =>
      e = .returned (.slice (some ⟨g, 0, none⟩) (n - 1) c) ∧ Ints w' B (.slice (some ⟨g, 0, none⟩) (n - 1) c) (delL xs i) ∧ Chg g (g + 1) w w' := by
  have I := O.ints (by omega)
  have hcap := I.capLe
  unfold maxLen at hcap
  obtain ⟨a', c', e, h1, h2, h3, h4⟩ := I
  cases e
  have hc := fun j hj => O.cell j hj
  obtain ⟨b0, o0, e0, hB, _⟩ := h4 0 (by omega)
  cases e0
  have key := Try.slices_Delete_int_cells g 0 xs.length c i (i + 1) xs w (Nat.le_refl _) hcap.1 (by omega) (by omega) (by omega) (fun j hj => by rw [Nat.zero_add]; exact (hc j hj).1) (fun j hj => by rw [Nat.zero_add]; exact (hc j hj).2)
  rw [show (((i + 1 : Nat)) : Int) = (i : Int) + 1 by omega] at key
  refine key.mono ?_
  rintro e w' ⟨rfl, q, rfl⟩
  have he : xs.length - (i + 1 - i) = xs.length - 1 := by omega
  rw [he]
  have K : Chg g (g + 1) w ((w.drewN q).setCells g 0 (((xs.take xs.length).take i ++ (xs.take xs.length).drop (i + 1) ++ List.replicate (i + 1 - i) 0).map (Value.int .i64))) :=
    (Chg.of_ext ((Ext.refl w).drewN q)).trans (setCells_chg g _ 0 _)
  refine ⟨rfl, ?_, K⟩
  have hd := delL_len xs i hi
  have hlen : (((xs.take xs.length).take i ++ (xs.take xs.length).drop (i + 1) ++ List.replicate (i + 1 - i) 0).map (Value.int .i64)).length = xs.length := by
    simp only [List.take_length, List.length_map, List.length_append, List.length_take, List.length_drop, List.length_replicate]; omega
  refine ⟨_, c, by rw [hd], by rw [hd]; omega, by unfold maxLen; omega, ⟨by rw [hd]; omega, fun h => by cases h⟩, fun j hj => ?_⟩
  rw [hd] at hj
  refine ⟨g, 0, rfl, hB, ?_, ?_⟩
  · have hin := World.cell?_setCells_in g (((xs.take xs.length).take i ++ (xs.take xs.length).drop (i + 1) ++ List.replicate (i + 1 - i) 0).map (Value.int .i64)) 0 (w.drewN q) (fun m hm => by
      rw [hlen] at hm
      rw [Nat.zero_add, show (w.drewN q).cell? ⟨g, m, none⟩ = w.cell? ⟨g, m, none⟩ by first | rfl | simp, (hc m hm).1]; rfl) j (by rw [hlen]; omega)
    rw [hin]
    simp only [List.getElem_map, List.take_length]
    congr 2
    unfold delL
    have hj2 : j < (xs.take i ++ xs.drop (i + 1)).length := by simp; omega
    rw [List.getElem_append_left hj2, List.getD_eq_getElem?_getD, List.getElem?_eq_getElem hj2]; rfl
  · rw [setCells_frz, show (w.drewN q).frozen? ⟨g, 0 + j, none⟩ = w.frozen? ⟨g, 0 + j, none⟩ by first | rfl | simp, Nat.zero_add]
    exact (hc j (by omega)).2
theorem Ints.chgN {w w' : World} {lo l h g o n c : Nat} {xs : List Int} (I : Ints w lo (.slice (some ⟨g, o, none⟩) n c) xs) (k : Chg l h w w') (hg : g < l ∨ h ≤ g) : Ints w' lo (.slice (some ⟨g, o, none⟩) n c) xs := by
  obtain ⟨a', c', e, h1, h2, h3, h4⟩ := I
  cases e
  refine ⟨_, _, rfl, h1, h2, h3, fun i hi => ?_⟩
  obtain ⟨b, of, ha, hb, hc, hf⟩ := h4 i hi
  cases ha
  exact ⟨_, _, rfl, hb, k.cell hg hc, k.frzO hg (qB hc) hf⟩
/-- a call hands back a view -/
def PVW (w : World) (b : Int) (s t : List Int) (e : Ending) (w' : World) : Prop := ∃ u v, e = .returned (.agg #[.int .i64 b, u, v]) ∧ Ints w' w.heap.size u s ∧ Ints w' w.heap.size v t ∧ Ext w w'
/-- a call hands back a view and whether there is one -/
def PVWB (w : World) (b : Int) (s t : List Int) (ok : Bool) (e : Ending) (w' : World) : Prop := ∃ u v, e = .returned (.tuple #[.agg #[.int .i64 b, u, v], .bool ok]) ∧ Ints w' w.heap.size u s ∧ Ints w' w.heap.size v t ∧ Ext w w'
theorem PVWB.no {w w' : World} (h : Ext w w') : PVWB w 0 [] [] false (.returned (.tuple #[.agg #[.int .i64 0, .slice none 0 0, .slice none 0 0], .bool false])) w' :=
  ⟨_, _, rfl, Ints.nil _ _ _ _ (by simp) (fun _ => rfl), Ints.nil _ _ _ _ (by simp) (fun _ => rfl), h⟩
theorem PViewB.weak {w w' : World} {b : Int} {s t : List Int} {ok : Bool} {e : Ending} (h : PViewB w b s t ok e w') : PVWB w b s t ok e w' := by
  obtain ⟨u, v, h1, h2, h3, -, -, -, h4⟩ := h
  exact ⟨u, v, h1, h2, h3, h4⟩
end Go.Proofs.Ytonnnjaooifpjaa

/- Walks: views without a dimension, of the program. -/
namespace Go.Proofs.Ytonnnjaooifpjaa
open Go.RowKit
set_option linter.unusedVariables false
set_option maxRecDepth 100000

set_option maxHeartbeats 3200000 in
theorem withoutDim_c (b1 : Int) (u1 v1 : Value) (s1 t1 : List Int) (d : Nat) (w : World) (l1 m1 : Nat) (h1 : Ints w l1 u1 s1) (k1 : Ints w m1 v1 t1) (hd : d < s1.length) (hl : t1.length = s1.length) (h4 : s1.length ≤ 4) :
    Calls Try.prog 99 #[.agg #[.int .i64 b1, u1, v1], .int .i64 (d : Int)] w (PVW w b1 (delL s1 d) (delL t1 d)) := by
  have hd2 : d < t1.length := by omega
  have hne1 : s1 ≠ [] := fun h => by rw [h] at hd; simp at hd
  have hne2 : t1 ≠ [] := fun h => by rw [h] at hd2; simp at hd2
  obtain ⟨a1, cp1, rfl⟩ := h1.form
  obtain ⟨a2, cp2, rfl⟩ := k1.form
  replace hl := Lib.hid hl
  replace hne1 := Lib.hid hne1
  replace hne2 := Lib.hid hne2
  go_enter Try.func99, Try.ntmps99
  go_wp2_with fail
  refine (copyView_c b1 _ _ s1 t1 _ l1 m1 (h1.ext qXo) (k1.ext qXo)).mono ?_
  rintro e w1 ⟨x1, x2, rfl, -, -, o1, o2, od, xw1⟩
  have Lw1 : Ext w w1 := Ext.trans qXt xw1
  have Xw1 : Ext w w1 := Lw1
  have va0 : w1.cell? ⟨w.heap.size, 0, none⟩ = some (.int .i64 b1) := xw1.cell qCl
  have va1 : w1.cell? ⟨w.heap.size, 1, none⟩ = some (.slice a1 s1.length cp1) := xw1.cell qCl
  have va2 : w1.cell? ⟨w.heap.size, 2, none⟩ = some (.slice a2 t1.length cp2) := xw1.cell qCl
  have q0 : w1.cell? ⟨w.heap.size + 1, 0, none⟩ = some (.int .i64 0) := xw1.cell qCl
  have q1 : w1.cell? ⟨w.heap.size + 1, 1, none⟩ = some (.slice none 0 0) := xw1.cell qCl
  have q2 : w1.cell? ⟨w.heap.size + 1, 2, none⟩ = some (.slice none 0 0) := xw1.cell qCl
  have f_q0 : w1.frozen? ⟨w.heap.size + 1, 0, none⟩ = false := xw1.frz (by simp <;> omega) qFz
  have f_q1 : w1.frozen? ⟨w.heap.size + 1, 1, none⟩ = false := xw1.frz (by simp <;> omega) qFz
  have f_q2 : w1.frozen? ⟨w.heap.size + 1, 2, none⟩ = false := xw1.frz (by simp <;> omega) qFz
  have z_va : w.heap.size < w1.heap.size := qB va0
  have z_q : w.heap.size + 1 < w1.heap.size := qB q0
  have s_w1 : w.heap.size ≤ w1.heap.size := Xw1.size
  clear xw1
  have O1 := (o1.ofNe hne1.out).lower (show w.heap.size + 2 ≤ _ by simp)
  have O2 := (o2.ofNe hne2.out).lower (show w.heap.size + 2 ≤ _ by simp)
  clear o1 o2
  obtain ⟨g1, r1, rfl, G1, G1'⟩ := O1.row hne1.out
  obtain ⟨g2, r2, rfl, G2, G2'⟩ := O2.row hne2.out
  have hgg : g1 ≠ g2 := fun h => od hne1.out hne2.out (by rw [h]; rfl)
  clear od
  go_wp2_with fail
  generalize hW1 : w1.alloc (.cells #[.int .i64 b1, .slice (some ⟨g1, 0, none⟩) s1.length r1, .slice (some ⟨g2, 0, none⟩) t1.length r2] 25) = w2 at *
  have Lw2 : Ext w1 w2 := by subst hW1; exact qXt
  have Xw2 : Ext w w2 := Xw1.trans Lw2
  replace va0 := Lw2.cell va0
  replace va1 := Lw2.cell va1
  replace va2 := Lw2.cell va2
  replace q0 := Lw2.cell q0
  replace q1 := Lw2.cell q1
  replace q2 := Lw2.cell q2
  replace f_q0 := Lw2.frz z_q f_q0
  replace f_q1 := Lw2.frz z_q f_q1
  replace f_q2 := Lw2.frz z_q f_q2
  have y0 : w2.cell? ⟨w1.heap.size, 0, none⟩ = some (.int .i64 b1) := by subst hW1; exact qCl
  have y1 : w2.cell? ⟨w1.heap.size, 1, none⟩ = some (.slice (some ⟨g1, 0, none⟩) s1.length r1) := by subst hW1; exact qCl
  have y2 : w2.cell? ⟨w1.heap.size, 2, none⟩ = some (.slice (some ⟨g2, 0, none⟩) t1.length r2) := by subst hW1; exact qCl
  have f_y0 : w2.frozen? ⟨w1.heap.size, 0, none⟩ = false := by subst hW1; exact qFz
  have f_y1 : w2.frozen? ⟨w1.heap.size, 1, none⟩ = false := by subst hW1; exact qFz
  have f_y2 : w2.frozen? ⟨w1.heap.size, 2, none⟩ = false := by subst hW1; exact qFz
  have z_va : w.heap.size < w2.heap.size := qB va0
  have z_q : w.heap.size + 1 < w2.heap.size := qB q0
  have z_y : w1.heap.size < w2.heap.size := qB y0
  replace O1 := O1.ext Lw2
  replace O2 := O2.ext Lw2
  have s_w2 : w.heap.size ≤ w2.heap.size := Xw2.size
  clear hW1
  have hOI1 := O1
  clear O1
  go_wp2_with fail
  refine (delete_c s1 g1 _ r1 _ d _ (hOI1.ext qXt) hd (by have := hl.out; omega)).mono ?_
  rintro e w3 ⟨rfl, I1, Cw3⟩
  have zc_w3 := Cw3.size
  have Xw3 : Ext w w3 := Rch.toExt' Cw3 (by omega) (Xw2)
  replace va0 := Cw3.cell (by omega) va0
  replace va1 := Cw3.cell (by omega) va1
  replace va2 := Cw3.cell (by omega) va2
  replace q0 := Cw3.cell (by omega) q0
  replace f_q0 := Cw3.frzO (by omega) (by omega) f_q0
  replace q1 := Cw3.cell (by omega) q1
  replace f_q1 := Cw3.frzO (by omega) (by omega) f_q1
  replace q2 := Cw3.cell (by omega) q2
  replace f_q2 := Cw3.frzO (by omega) (by omega) f_q2
  replace y0 := Cw3.cell (by omega) y0
  replace f_y0 := Cw3.frzO (by omega) (by omega) f_y0
  replace y1 := Cw3.cell (by omega) y1
  replace f_y1 := Cw3.frzO (by omega) (by omega) f_y1
  replace y2 := Cw3.cell (by omega) y2
  replace f_y2 := Cw3.frzO (by omega) (by omega) f_y2
  have z_va : w.heap.size < w3.heap.size := qB va0
  have z_q : w.heap.size + 1 < w3.heap.size := qB q0
  have z_y : w1.heap.size < w3.heap.size := qB y0
  replace O2 := O2.chgN Cw3 (by omega)
  have s_w3 : w.heap.size ≤ w3.heap.size := Xw3.size
  clear Cw3
  clear hOI1
  go_wp2_with fail
  generalize hW2 : (w3.setCell ⟨w1.heap.size, 1, none⟩ (.slice (some ⟨g1, 0, none⟩) (s1.length - 1) r1)) = w4 at *
  have Kw4 : Chg (w1.heap.size) (w1.heap.size + 1) w3 w4 := by subst hW2; exact qCh
  have Xw4 : Ext w w4 := by subst hW2; exact qXt
  replace va0 := Kw4.cell (by omega) va0
  replace va1 := Kw4.cell (by omega) va1
  replace va2 := Kw4.cell (by omega) va2
  replace q0 := Kw4.cell (by omega) q0
  replace f_q0 := Kw4.frzO (by omega) z_q f_q0
  replace q1 := Kw4.cell (by omega) q1
  replace f_q1 := Kw4.frzO (by omega) z_q f_q1
  replace q2 := Kw4.cell (by omega) q2
  replace f_q2 := Kw4.frzO (by omega) z_q f_q2
  replace y0 : w4.cell? ⟨w1.heap.size, 0, none⟩ = some (.int .i64 b1) := by subst hW2; go_simp
  replace f_y0 : w4.frozen? ⟨w1.heap.size, 0, none⟩ = false := by subst hW2; go_simp
  replace y1 : w4.cell? ⟨w1.heap.size, 1, none⟩ = some (.slice (some ⟨g1, 0, none⟩) (s1.length - 1) r1) := by subst hW2; go_simp
  replace f_y1 : w4.frozen? ⟨w1.heap.size, 1, none⟩ = false := by subst hW2; go_simp
  replace y2 : w4.cell? ⟨w1.heap.size, 2, none⟩ = some (.slice (some ⟨g2, 0, none⟩) t1.length r2) := by subst hW2; go_simp
  replace f_y2 : w4.frozen? ⟨w1.heap.size, 2, none⟩ = false := by subst hW2; go_simp
  replace O2 := O2.chgN Kw4 (by omega)
  replace I1 := I1.chgN Kw4 (by omega)
  clear Kw4
  have z_va : w.heap.size < w4.heap.size := qB va0
  have z_q : w.heap.size + 1 < w4.heap.size := qB q0
  have z_y : w1.heap.size < w4.heap.size := qB y0
  have s_w4 : w.heap.size ≤ w4.heap.size := Xw4.size
  clear hW2
  have hOI2 := O2
  clear O2
  go_wp2_with fail
  refine (delete_c t1 g2 _ r2 _ d _ (hOI2.ext qXt) hd2 (by have := hl.out; omega)).mono ?_
  rintro e w5 ⟨rfl, I2, Cw5⟩
  have zc_w5 := Cw5.size
  have Xw5 : Ext w w5 := Rch.toExt' Cw5 (by omega) (Xw4)
  replace va0 := Cw5.cell (by omega) va0
  replace va1 := Cw5.cell (by omega) va1
  replace va2 := Cw5.cell (by omega) va2
  replace q0 := Cw5.cell (by omega) q0
  replace f_q0 := Cw5.frzO (by omega) (by omega) f_q0
  replace q1 := Cw5.cell (by omega) q1
  replace f_q1 := Cw5.frzO (by omega) (by omega) f_q1
  replace q2 := Cw5.cell (by omega) q2
  replace f_q2 := Cw5.frzO (by omega) (by omega) f_q2
  replace y0 := Cw5.cell (by omega) y0
  replace f_y0 := Cw5.frzO (by omega) (by omega) f_y0
  replace y1 := Cw5.cell (by omega) y1
  replace f_y1 := Cw5.frzO (by omega) (by omega) f_y1
  replace y2 := Cw5.cell (by omega) y2
  replace f_y2 := Cw5.frzO (by omega) (by omega) f_y2
  have z_va : w.heap.size < w5.heap.size := qB va0
  have z_q : w.heap.size + 1 < w5.heap.size := qB q0
  have z_y : w1.heap.size < w5.heap.size := qB y0
  replace I1 := I1.chgN Cw5 (by omega)
  have s_w5 : w.heap.size ≤ w5.heap.size := Xw5.size
  clear Cw5
  clear hOI2
  go_wp2_with fail
  generalize hW3 : (w5.setCell ⟨w1.heap.size, 2, none⟩ (.slice (some ⟨g2, 0, none⟩) (t1.length - 1) r2)) = w6 at *
  have Kw6 : Chg (w1.heap.size) (w1.heap.size + 1) w5 w6 := by subst hW3; exact qCh
  have Xw6 : Ext w w6 := by subst hW3; exact qXt
  replace va0 := Kw6.cell (by omega) va0
  replace va1 := Kw6.cell (by omega) va1
  replace va2 := Kw6.cell (by omega) va2
  replace q0 := Kw6.cell (by omega) q0
  replace f_q0 := Kw6.frzO (by omega) z_q f_q0
  replace q1 := Kw6.cell (by omega) q1
  replace f_q1 := Kw6.frzO (by omega) z_q f_q1
  replace q2 := Kw6.cell (by omega) q2
  replace f_q2 := Kw6.frzO (by omega) z_q f_q2
  replace y0 : w6.cell? ⟨w1.heap.size, 0, none⟩ = some (.int .i64 b1) := by subst hW3; go_simp
  replace f_y0 : w6.frozen? ⟨w1.heap.size, 0, none⟩ = false := by subst hW3; go_simp
  replace y1 : w6.cell? ⟨w1.heap.size, 1, none⟩ = some (.slice (some ⟨g1, 0, none⟩) (s1.length - 1) r1) := by subst hW3; go_simp
  replace f_y1 : w6.frozen? ⟨w1.heap.size, 1, none⟩ = false := by subst hW3; go_simp
  replace y2 : w6.cell? ⟨w1.heap.size, 2, none⟩ = some (.slice (some ⟨g2, 0, none⟩) (t1.length - 1) r2) := by subst hW3; go_simp
  replace f_y2 : w6.frozen? ⟨w1.heap.size, 2, none⟩ = false := by subst hW3; go_simp
  replace I1 := I1.chgN Kw6 (by omega)
  replace I2 := I2.chgN Kw6 (by omega)
  clear Kw6
  have z_va : w.heap.size < w6.heap.size := qB va0
  have z_q : w.heap.size + 1 < w6.heap.size := qB q0
  have z_y : w1.heap.size < w6.heap.size := qB y0
  have s_w6 : w.heap.size ≤ w6.heap.size := Xw6.size
  clear hW3
  go_wp2_with fail
  generalize hW4 : (((w6.setCell ⟨w.heap.size + 1, 0, none⟩ (.int .i64 b1)).setCell ⟨w.heap.size + 1, 1, none⟩ (.slice (some ⟨g1, 0, none⟩) (s1.length - 1) r1)).setCell ⟨w.heap.size + 1, 2, none⟩ (.slice (some ⟨g2, 0, none⟩) (t1.length - 1) r2)) = w7 at *
  have Kw7 : Chg (w.heap.size + 1) (w.heap.size + 1 + 1) w6 w7 := by subst hW4; exact qCh
  have Xw7 : Ext w w7 := by subst hW4; exact qXt
  replace va0 := Kw7.cell (by omega) va0
  replace va1 := Kw7.cell (by omega) va1
  replace va2 := Kw7.cell (by omega) va2
  replace q0 : w7.cell? ⟨w.heap.size + 1, 0, none⟩ = some (.int .i64 b1) := by subst hW4; go_simp
  replace f_q0 : w7.frozen? ⟨w.heap.size + 1, 0, none⟩ = false := by subst hW4; go_simp
  replace q1 : w7.cell? ⟨w.heap.size + 1, 1, none⟩ = some (.slice (some ⟨g1, 0, none⟩) (s1.length - 1) r1) := by subst hW4; go_simp
  replace f_q1 : w7.frozen? ⟨w.heap.size + 1, 1, none⟩ = false := by subst hW4; go_simp
  replace q2 : w7.cell? ⟨w.heap.size + 1, 2, none⟩ = some (.slice (some ⟨g2, 0, none⟩) (t1.length - 1) r2) := by subst hW4; go_simp
  replace f_q2 : w7.frozen? ⟨w.heap.size + 1, 2, none⟩ = false := by subst hW4; go_simp
  replace y0 := Kw7.cell (by omega) y0
  replace f_y0 := Kw7.frzO (by omega) z_y f_y0
  replace y1 := Kw7.cell (by omega) y1
  replace f_y1 := Kw7.frzO (by omega) z_y f_y1
  replace y2 := Kw7.cell (by omega) y2
  replace f_y2 := Kw7.frzO (by omega) z_y f_y2
  replace I1 := I1.chgN Kw7 (by omega)
  replace I2 := I2.chgN Kw7 (by omega)
  clear Kw7
  have z_va : w.heap.size < w7.heap.size := qB va0
  have z_q : w.heap.size + 1 < w7.heap.size := qB q0
  have z_y : w1.heap.size < w7.heap.size := qB y0
  have s_w7 : w.heap.size ≤ w7.heap.size := Xw7.size
  clear hW4
  refine bodyPost_ret (v := .agg #[.int .i64 b1, .slice (some ⟨g1, 0, none⟩) (s1.length - 1) r1, .slice (some ⟨g2, 0, none⟩) (t1.length - 1) r2]) (by simp only [results, Try.results99]; go_simp) rfl ?_
  exact ⟨_, _, rfl, I1.lower (by omega), I2.lower (by omega), Xw7⟩

end Go.Proofs.Ytonnnjaooifpjaa

/- Walks: ValidView, FitsIn, BoundsOf. -/
namespace Go.Proofs.Ytonnnjaooifpjaa
open Go.RowKit
set_option linter.unusedVariables false
set_option maxRecDepth 100000


theorem areCells_c (x : Int) (w : World) : Calls Try.prog 109 #[.int .i64 x] w fun e w' => e = .returned (.bool (inB 0 60 x)) ∧ w = w' := by
  by_cases h : 0 ≤ x
  · go_enter Try.func109, Try.ntmps109
    go_wp2_with fail
    go_ret
    exact ⟨by simp [inB, h], rfl⟩
  · have h' : x < 0 := by omega
    go_enter Try.func109, Try.ntmps109
    go_wp2_with fail
    go_ret
    exact ⟨by simp [inB]; intro; omega, rfl⟩
theorem min_lib (l : List Int) : Lib.minOf l = minL l := by cases l <;> rfl
theorem max_lib (l : List Int) : Lib.maxOf l = maxL l := by cases l <;> rfl
def fitA (b : Int) (s t : List Int) (x : Int) : Bool := viewB b s t && (inB 0 60 x && fitB b s t x)
set_option maxHeartbeats 1600000 in
theorem implValidView_c (b1 : Int) (u1 v1 : Value) (s1 t1 : List Int) (w : World) (l1 m1 : Nat) (h1 : Ints w l1 u1 s1) (k1 : Ints w m1 v1 t1) :
    Calls Try.prog 18 #[.agg #[.int .i64 b1, u1, v1]] w (fun e w' => e = .returned (.bool (viewB b1 s1 t1)) ∧ Ext w w') := by
  obtain ⟨a1, cp1, rfl⟩ := h1.form
  obtain ⟨a2, cp2, rfl⟩ := k1.form
  go_enter Try.func18, Try.ntmps18
  go_wp2_with fail
  refine (isView_c b1 _ _ s1 t1 _ l1 m1 (h1.ext qXt) (k1.ext qXt)).mono ?_
  rintro e w1 ⟨rfl, xw1⟩
  have Lw1 : Ext w w1 := Ext.trans qXt xw1
  have Xw1 : Ext w w1 := Lw1
  have va0 : w1.cell? ⟨w.heap.size, 0, none⟩ = some (.int .i64 b1) := xw1.cell qCl
  have va1 : w1.cell? ⟨w.heap.size, 1, none⟩ = some (.slice a1 s1.length cp1) := xw1.cell qCl
  have va2 : w1.cell? ⟨w.heap.size, 2, none⟩ = some (.slice a2 t1.length cp2) := xw1.cell qCl
  have z_va : w.heap.size < w1.heap.size := qB va0
  have s_w1 : w.heap.size ≤ w1.heap.size := Xw1.size
  clear xw1
  go_wp2_with fail
  go_ret
  exact ⟨rfl, Xw1.trans qXt⟩

def bndT (b : Int) (s t : List Int) : Int × Int := if viewB b s t && !(countL s == 0) then (minL (offsL b s t), maxL (offsL b s t)) else (-1, -1)
end Go.Proofs.Ytonnnjaooifpjaa

/- Walks: OffsetsOf and IsRow of the program and of the reference. -/
namespace Go.Proofs.Ytonnnjaooifpjaa
open Go.RowKit
set_option linter.unusedVariables false
set_option maxRecDepth 100000


def offA (b : Int) (s t : List Int) : List Int := if viewB b s t then offsL b s t else []
set_option maxHeartbeats 1600000 in
theorem implOffsetsOf_c (b1 : Int) (u1 v1 : Value) (s1 t1 : List Int) (w : World) (l1 m1 : Nat) (h1 : Ints w l1 u1 s1) (k1 : Ints w m1 v1 t1) :
    Calls Try.prog 39 #[.agg #[.int .i64 b1, u1, v1]] w (PInts w (offA b1 s1 t1)) := by
  obtain ⟨a1, cp1, rfl⟩ := h1.form
  obtain ⟨a2, cp2, rfl⟩ := k1.form
  cases ha : viewB b1 s1 t1
  · have hr : Hid (offA b1 s1 t1 = []) := Lib.hid (by unfold offA; rw [ha]; rfl)
    replace ha := Lib.hid ha
    go_enter Try.func39, Try.ntmps39
    go_wp2_with fail
    refine (isView_c b1 _ _ s1 t1 _ l1 m1 (h1.ext qXt) (k1.ext qXt)).mono ?_
    rintro e w1 ⟨rfl, xw1⟩
    have Lw1 : Ext w w1 := Ext.trans qXt xw1
    have Xw1 : Ext w w1 := Lw1
    have va0 : w1.cell? ⟨w.heap.size, 0, none⟩ = some (.int .i64 b1) := xw1.cell qCl
    have va1 : w1.cell? ⟨w.heap.size, 1, none⟩ = some (.slice a1 s1.length cp1) := xw1.cell qCl
    have va2 : w1.cell? ⟨w.heap.size, 2, none⟩ = some (.slice a2 t1.length cp2) := xw1.cell qCl
    have z_va : w.heap.size < w1.heap.size := qB va0
    have s_w1 : w.heap.size ≤ w1.heap.size := Xw1.size
    clear xw1
    rw [ha.out]
    go_wp2_with fail
    go_ret
    rw [hr.out]
    exact PInts.nilv (Xw1.trans qXt)
  · have hr : Hid (offA b1 s1 t1 = offsL b1 s1 t1) := Lib.hid (by unfold offA; rw [ha]; rfl)
    obtain ⟨j1, j2, -⟩ := viewB_in ha
    have hin := Lib.hid (shapeB_in j1)
    have hj2 := Lib.hid j2
    clear j1 j2
    replace ha := Lib.hid ha
    go_enter Try.func39, Try.ntmps39
    go_wp2_with fail
    refine (isView_c b1 _ _ s1 t1 _ l1 m1 (h1.ext qXt) (k1.ext qXt)).mono ?_
    rintro e w1 ⟨rfl, xw1⟩
    have Lw1 : Ext w w1 := Ext.trans qXt xw1
    have Xw1 : Ext w w1 := Lw1
    have va0 : w1.cell? ⟨w.heap.size, 0, none⟩ = some (.int .i64 b1) := xw1.cell qCl
    have va1 : w1.cell? ⟨w.heap.size, 1, none⟩ = some (.slice a1 s1.length cp1) := xw1.cell qCl
    have va2 : w1.cell? ⟨w.heap.size, 2, none⟩ = some (.slice a2 t1.length cp2) := xw1.cell qCl
    have z_va : w.heap.size < w1.heap.size := qB va0
    have s_w1 : w.heap.size ≤ w1.heap.size := Xw1.size
    clear xw1
    rw [ha.out]
    go_wp2_with fail
    refine (offsetsOf_c b1 _ _ s1 t1 _ l1 m1 (h1.ext (Xw1.trans qXt)) (k1.ext (Xw1.trans qXt)) (by have := hj2.out; omega) hin.out.2.2.2.2 (by have := hin.out; omega)).mono ?_
    rintro e w2 ⟨r, rfl, i, o, xw2⟩
    have Lw2 : Ext w1 w2 := Ext.trans qXt xw2
    have Xw2 : Ext w w2 := Xw1.trans Lw2
    replace va0 := Lw2.cell va0
    replace va1 := Lw2.cell va1
    replace va2 := Lw2.cell va2
    have z_va : w.heap.size < w2.heap.size := qB va0
    have s_w2 : w.heap.size ≤ w2.heap.size := Xw2.size
    clear xw2
    go_wp2_with fail
    go_ret
    rw [hr.out]
    exact PInts.of o i (by first | omega | (simp; omega)) (Xw2.trans qXt)

end Go.Proofs.Ytonnnjaooifpjaa

/- Walks: rowStrides of the program. -/
namespace Go.Proofs.Ytonnnjaooifpjaa
open Go.RowKit
set_option linter.unusedVariables false
set_option maxRecDepth 100000

theorem rowS_at (xs : List Int) (j : Nat) (h : j < xs.length) : ((rowS xs).take j ++ List.replicate (xs.length - j) 0).set j (prodL (xs.drop (j+1))) = (rowS xs).take (j+1) ++ List.replicate (xs.length - (j+1)) 0 := by
  have hl := rowS_len xs
  have hg : (rowS xs)[j]'(by omega) = prodL (xs.drop (j+1)) := by
    induction xs generalizing j with
    | nil => simp at h
    | cons x xs ih =>
      cases j with
      | zero => rfl
      | succ j => simpa [rowS] using ih j (by simpa using h) (rowS_len xs)
  have e : xs.length - j = (xs.length - (j+1)) + 1 := by omega
  have ht : ((rowS xs).take j).length = j := by simp; omega
  rw [e, List.replicate_succ, List.set_append_right _ _ (by omega), ht, Nat.sub_self, List.set_cons_zero, List.take_succ_eq_append_getElem (by omega), hg]
  simp

set_option maxHeartbeats 800000 in
theorem implRowStrides_c (xs : List Int) (v : Value) (w : World) (lo : Nat) (hv : Ints w lo v xs) (hs : Small xs) :
    Calls Try.prog 77 #[v] w (PInts w (rowS xs)) := by
  have hv0 := hv
  obtain ⟨a, cap, rfl, hlc, hcm, ⟨hlen, _⟩, hc⟩ := hv
  obtain ⟨i0, hi, hz0, hz1, hz2⟩ := info_parts infoInt
  have hsb := Lib.hid (fun j : Nat => (hs.drop j).count)
  clear hs
  go_enter Try.func77, Try.ntmps77
  go_wp2_with (at_make; refine wpList_make_full _ rfl _ _ 23 rfl w.heap.size 3 i0 (.int .i64 0) 1 Try.underlying23 hi hz0 hz1 .i64 .i64 _ _ xs.length rfl rfl rfl rfl (by rw [hz2]; omega) (by unfold maxLen; omega) (Nat.le_refl _) ?_)
  intro w1 hown hgr
  have hx : Ext w w1 := (Ext.refl w).grown hgr (by simp)
  rw [made_ints] at hown
  clear hgr
  go_wp2_with fail
  go_loopw [4, 10, 11, 12] (fun _ i _ _ wr => ∃ j : Nat, j ≤ xs.length ∧ i = .int .i64 (j : Int) ∧
      wr.ownsRow w.heap.size 3 1 (.slice (some ⟨w.heap.size, 0, none⟩) xs.length xs.length) xs.length (((rowS xs).take j ++ List.replicate (xs.length - j) 0).map (Value.int .i64)) ∧ Ext w wr)
    (fun _ i _ _ _ => xs.length - (intOf i).toNat)
  case atStart => exact ⟨0, Nat.zero_le _, rfl, by simpa using hown, hx⟩
  case round =>
    obtain ⟨j, hj, rfl, ho, hxr⟩ := hrel
    by_cases hlt : j < xs.length
    · have hI : (j : Int) < xs.length := by omega
      obtain ⟨b, off, rfl, _, hcell, _⟩ := hc j hlt
      obtain ⟨hoc, hof⟩ := own_cell ho j (by omega)
      have hst := Lib.hid (own_set ho j (prodL (xs.drop (j+1))) (by omega))
      have hset := Lib.hid (rowS_at xs j hlt)
      have hcn := Lib.hid (hsb.out (j+1)).1
      have hwr : IntKind.i64.wrap ((j : Int) + 1) = (j : Int) + 1 := IntWalk.i64_in _ (by omega)
      clear hc ho hcell
      by_cases hcp : cap = j + 1
      · subst hcp
        have hdr := (hv0.ext hxr).drop0 (j+1) (by omega) rfl
        rw [show xs.length - (j+1) = 0 by omega] at hdr
        go_wp2_with fail
        refine (countOf_c _ _ _ _ hdr).mono ?_
        rintro e w' ⟨rfl, rfl⟩
        rw [hcn.out]
        go_wp2_with fail
        go_roundw
        case rel => exact ⟨j + 1, by omega, by go_num, by have := hst.out; rw [hset.out] at this; exact this, hxr.setCell (Nat.le_refl _) _⟩
        case measure => simp [intOf]; omega
      · have hdr := (hv0.ext hxr).drop1 (j+1) (by omega) hcp
        go_wp2_with fail
        refine (countOf_c _ _ _ _ hdr).mono ?_
        rintro e w' ⟨rfl, rfl⟩
        rw [hcn.out]
        go_wp2_with fail
        go_roundw
        case rel => exact ⟨j + 1, by omega, by go_num, by have := hst.out; rw [hset.out] at this; exact this, hxr.setCell (Nat.le_refl _) _⟩
        case measure => simp [intOf]; omega
    · obtain rfl : j = xs.length := by omega
      have hIn : ¬ ((xs.length : Int) < xs.length) := by omega
      go_wp2_with fail
      go_ret
      refine PInts.mk (base := w.heap.size) ?_ (Nat.le_refl _) (by rw [rowS_len]; omega) hxr
      unfold OwnI; rw [rowS_len]
      rw [List.take_of_length_le (by rw [rowS_len]; exact Nat.le_refl _)] at ho
      simpa using ho
end Go.Proofs.Ytonnnjaooifpjaa

/- Helpers of the laws: equal lists, equal views, a number in a list. -/
namespace Go.Proofs.Ytonnnjaooifpjaa
open Go.RowKit
set_option linter.unusedVariables false
set_option maxRecDepth 100000



set_option maxHeartbeats 1600000 in
theorem leqInts_c (xs : List Int) (a b : Value) (w : World) (la lb : Nat) (ha : Ints w la a xs) (hb : Ints w lb b xs) :
    Calls Try.prog 27 #[a, b] w fun e w' => e = .returned (.bool true) ∧ Ext w w' := by
  obtain ⟨a1, cap1, rfl, _, _, ⟨hlen, _⟩, hc1⟩ := ha
  obtain ⟨a2, cap2, rfl, _, _, ⟨hlen2, _⟩, hc2⟩ := hb
  go_enter Try.func27, Try.ntmps27
  go_wp2_with fail
  go_loopw [5] (fun i wr => ∃ k m : Nat, k ≤ xs.length ∧ i = .int .i64 k ∧ wr = w.drewN m) (fun i _ => xs.length - (intOf i).toNat)
  case atStart => exact ⟨0, 0, Nat.zero_le _, rfl, rfl⟩
  case round =>
    obtain ⟨k, m, hk, rfl, rfl⟩ := hrel
    by_cases hlt : k < xs.length
    · obtain ⟨b1, off1, rfl, _, hcell1, _⟩ := hc1 k hlt
      obtain ⟨b2, off2, rfl, _, hcell2, _⟩ := hc2 k hlt
      have hk4 : (k : Int) < xs.length := by omega
      clear hc1 hc2
      generalize xs.getD k 0 = x at *
      go_wp2_with fail
      go_quiet (fail)
      go_wp2_with fail
      go_roundw
      case rel => exact ⟨k+1, _, by omega, by go_num, rfl⟩
      case measure => simp [intOf]; omega
    · obtain rfl : k = xs.length := by omega
      go_wp2_with fail
      go_ret
      exact ⟨rfl, qXo⟩

set_option maxHeartbeats 1600000 in
theorem isIn_c (xs : List Int) (n : Int) (a : Value) (w : World) (la : Nat) (ha : Ints w la a xs) :
    Calls Try.prog 124 #[a, .int .i64 n] w fun e w' => e = .returned (.bool (decide (n ∈ xs))) ∧ Ext w w' := by
  obtain ⟨a1, cap1, rfl, _, _, ⟨hlen, _⟩, hc1⟩ := ha
  go_enter Try.func124, Try.ntmps124
  go_wp2_with fail
  go_loopw [5] (fun i wr => ∃ k m : Nat, k ≤ xs.length ∧ i = .int .i64 k ∧ wr = w.drewN m ∧ Hid (n ∉ xs.take k)) (fun i _ => xs.length - (intOf i).toNat)
  case atStart => exact ⟨0, 0, Nat.zero_le _, rfl, rfl, Lib.hid (by simp)⟩
  case round =>
    obtain ⟨k, m, hk, rfl, rfl, ht⟩ := hrel
    by_cases hlt : k < xs.length
    · obtain ⟨b1, off1, rfl, _, hcell1, _⟩ := hc1 k hlt
      have hk4 : (k : Int) < xs.length := by omega
      have hg := Lib.hid (show xs.getD k 0 ∈ xs by simp [hlt])
      have hs := Lib.hid (show xs.take (k+1) = xs.take k ++ [xs.getD k 0] by rw [List.take_succ_eq_append_getElem hlt]; simp [hlt])
      clear hc1
      generalize xs.getD k 0 = x at *
      by_cases hx : x = n
      · have hq : (x == n) = true := by simpa using hx
        have hn := Lib.hid (show decide (n ∈ xs) = true by rw [← hx]; simpa using hg.out)
        replace hx := Lib.hid hx
        go_wp2_with fail
        go_ret
        exact ⟨by rw [hn.out] <;> rfl, qXo⟩
      · have hq : (x == n) = false := by simpa using hx
        have hn := Lib.hid (show n ∉ xs.take (k+1) by rw [hs.out]; simp only [List.mem_append, List.mem_singleton, not_or]; exact ⟨ht.out, fun h => hx h.symm⟩)
        replace hx := Lib.hid hx
        go_wp2_with fail
        go_roundw
        case rel => exact ⟨k+1, _, by omega, by go_num, rfl, hn⟩
        case measure => simp [intOf]; omega
    · obtain rfl : k = xs.length := by omega
      have hn := Lib.hid (show decide (n ∈ xs) = false by have := ht.out; rw [List.take_length] at this; simpa using this)
      go_wp2_with fail
      go_ret
      exact ⟨by rw [hn.out] <;> rfl, qXo⟩

set_option maxHeartbeats 1600000 in
theorem leqView_c (b1 : Int) (u1 v1 u2 v2 : Value) (s1 t1 : List Int) (w : World) (l1 m1 l2 m2 : Nat) (h1 : Ints w l1 u1 s1) (k1 : Ints w m1 v1 t1) (h2 : Ints w l2 u2 s1) (k2 : Ints w m2 v2 t1) :
    Calls Try.prog 33 #[.agg #[.int .i64 b1, u1, v1], .agg #[.int .i64 b1, u2, v2]] w fun e w' => e = .returned (.bool true) ∧ Ext w w' := by
  obtain ⟨a1, cp1, rfl⟩ := h1.form
  obtain ⟨a2, cp2, rfl⟩ := k1.form
  obtain ⟨a3, cp3, rfl⟩ := h2.form
  obtain ⟨a4, cp4, rfl⟩ := k2.form
  go_enter Try.func33, Try.ntmps33
  go_wp2_with fail
  refine (leqInts_c s1 _ _ _ l1 l2 (h1.ext qXt) (h2.ext qXt)).mono ?_
  rintro e w1 ⟨rfl, xw1⟩
  have Lw1 : Ext w w1 := Ext.trans qXt xw1
  have Xw1 : Ext w w1 := Lw1
  have va0 : w1.cell? ⟨w.heap.size, 0, none⟩ = some (.int .i64 b1) := xw1.cell qCl
  have va1 : w1.cell? ⟨w.heap.size, 1, none⟩ = some (.slice a1 s1.length cp1) := xw1.cell qCl
  have va2 : w1.cell? ⟨w.heap.size, 2, none⟩ = some (.slice a2 t1.length cp2) := xw1.cell qCl
  have vb0 : w1.cell? ⟨w.heap.size + 1, 0, none⟩ = some (.int .i64 b1) := xw1.cell qCl
  have vb1 : w1.cell? ⟨w.heap.size + 1, 1, none⟩ = some (.slice a3 s1.length cp3) := xw1.cell qCl
  have vb2 : w1.cell? ⟨w.heap.size + 1, 2, none⟩ = some (.slice a4 t1.length cp4) := xw1.cell qCl
  have z_va : w.heap.size < w1.heap.size := qB va0
  have z_vb : w.heap.size + 1 < w1.heap.size := qB vb0
  have s_w1 : w.heap.size ≤ w1.heap.size := Xw1.size
  clear xw1
  go_wp2_with fail
  refine (leqInts_c t1 _ _ _ m1 m2 (k1.ext (Xw1.trans qXt)) (k2.ext (Xw1.trans qXt))).mono ?_
  rintro e w2 ⟨rfl, xw2⟩
  have Lw2 : Ext w1 w2 := Ext.trans qXt xw2
  have Xw2 : Ext w w2 := Xw1.trans Lw2
  replace va0 := Lw2.cell va0
  replace va1 := Lw2.cell va1
  replace va2 := Lw2.cell va2
  replace vb0 := Lw2.cell vb0
  replace vb1 := Lw2.cell vb1
  replace vb2 := Lw2.cell vb2
  have z_va : w.heap.size < w2.heap.size := qB va0
  have z_vb : w.heap.size + 1 < w2.heap.size := qB vb0
  have s_w2 : w.heap.size ≤ w2.heap.size := Xw2.size
  clear xw2
  go_wp2_with fail
  go_ret
  exact ⟨rfl, Xw2.trans qXt⟩

end Go.Proofs.Ytonnnjaooifpjaa

/- Walks: helpers of the laws. -/
namespace Go.Proofs.Ytonnnjaooifpjaa
open Go.RowKit
set_option linter.unusedVariables false
set_option maxRecDepth 100000

set_option maxHeartbeats 1600000 in
theorem takes_c (xs ix : List Int) (a b : Value) (w : World) (la lb : Nat) (ha : Ints w la a xs) (hb : Ints w lb b ix) (hin : ∀ i ∈ ix, 0 ≤ i ∧ i < xs.length) :
    Calls Try.prog 62 #[a, b] w (PInts w (takL xs ix)) := by
  obtain ⟨a1, c1, rfl⟩ := ha.form
  obtain ⟨a2, c2, rfl⟩ := hb.form
  have hlen := hb.len
  replace hin := Lib.hid hin
  go_enter Try.func62, Try.ntmps62
  go_wp2_with fail
  go_loopw [5, 6] (fun v i wr => ∃ k : Nat, k ≤ ix.length ∧ i = .int .i64 k ∧ OwnI wr w.heap.size v (takL xs (ix.take k)) ∧ Ext w wr) (fun _ i _ => ix.length - (intOf i).toNat)
  case atStart => exact ⟨0, Nat.zero_le _, rfl, OwnI.lit0 w w.heap.size (Nat.le_refl _), qXo⟩
  case round =>
    obtain ⟨k, hk, rfl, ho, hx⟩ := hrel
    have hz := hx.size
    have hl := Lib.hid (takL_len xs (ix.take k))
    by_cases hlt : k < ix.length
    · obtain ⟨_, _, hv, _, _, _, hc⟩ := hb.ext hx
      cases hv
      obtain ⟨b1, off1, rfl, _, hcell, _⟩ := hc k hlt
      have g : ix.getD k 0 = ix[k] := by simp [hlt]
      have hs := takL_take xs ix k hlt
      obtain ⟨i1, i2⟩ := hin.out _ (List.getElem_mem hlt)
      obtain ⟨j, hj⟩ : ∃ j : Nat, ix[k] = j := ⟨_, (Int.toNat_of_nonneg i1).symm⟩
      rw [g, hj] at hcell
      rw [hj] at hs i2
      have hjl : j < xs.length := by omega
      obtain ⟨_, _, hv, _, _, _, hc'⟩ := ha.ext hx
      cases hv
      obtain ⟨b2, off2, rfl, _, hcell2, _⟩ := hc' j hjl
      have g2 : xs.getD j 0 = xs[j] := by simp [hjl]
      rw [g2] at hcell2
      have hs' := Lib.hid (show takL xs (ix.take (k+1)) = takL xs (ix.take k) ++ [xs[j]] by rw [hs]; simp [hjl])
      clear hc hc' g g2 hj hs i1
      go_wp2_with (at_builtin; refine wpList_app rfl (.tmp 14) (.tmp 22) rfl rfl rfl (ho.ext ((Ext.refl _).alloc _)) (Ints.one _ 0 _ (Nat.zero_le _)) (by have := hl.out; simp only [List.length_cons, List.length_nil, List.length_take] at this ⊢; omega) (by simp; omega) ?_)
      intro v' w3 ho3 _ hb3 _
      have hx3 := (hx.alloc (.cells #[.int .i64 xs[j]] 3)).below hb3 (by omega)
      clear hb3 ho
      replace ho3 := Lib.hid ho3
      go_wp2_with fail
      go_roundw
      case rel => exact ⟨k+1, by omega, by go_num, by rw [hs'.out]; exact ho3.out, hx3⟩
      case measure => simp [intOf]; omega
    · obtain rfl : k = ix.length := by omega
      replace ho := Lib.hid ho
      go_wp2_with fail
      go_ret
      exact PInts.mk (by have := ho.out; rw [List.take_length] at this; exact this) (Nat.le_refl _) (by rw [takL_len]; omega) hx


set_option maxHeartbeats 1600000 in
theorem lupTo_c (n : Nat) (w : World) (hn : n ≤ 1000) :
    Calls Try.prog 21 #[.int .i64 (n : Int)] w (PInts w (upL n)) := by
  go_enter Try.func21, Try.ntmps21
  go_wp2_with fail
  go_loopw [3, 4] (fun v i wr => ∃ k : Nat, k ≤ n ∧ i = .int .i64 k ∧ OwnI wr w.heap.size v (upL k) ∧ Ext w wr) (fun _ i _ => n - (intOf i).toNat)
  case atStart => exact ⟨0, Nat.zero_le _, rfl, OwnI.lit0 w w.heap.size (Nat.le_refl _), qXo⟩
  case round =>
    obtain ⟨k, hk, rfl, ho, hx⟩ := hrel
    have hz := hx.size
    have hl : (upL k).length = k := by simp [upL]
    by_cases hlt : k < n
    · have hI : (k : Int) < n := by omega
      have hs := Lib.hid (upL_succ k)
      go_wp2_with (at_builtin; refine wpList_app rfl (.tmp 11) (.tmp 13) rfl rfl rfl (ho.ext ((Ext.refl _).alloc _)) (Ints.one _ 0 _ (Nat.zero_le _)) (by simp only [List.length_cons, List.length_nil]; omega) (by simp; omega) ?_)
      intro v' w3 ho3 _ hb3 _
      have hx3 := (hx.alloc (.cells #[.int .i64 (k : Int)] 3)).below hb3 (by omega)
      clear hb3 ho
      replace ho3 := Lib.hid ho3
      go_wp2_with fail
      go_roundw
      case rel => exact ⟨k+1, by omega, by go_num, by rw [hs.out]; exact ho3.out, hx3⟩
      case measure => simp [intOf]; omega
    · obtain rfl : k = n := by omega
      replace ho := Lib.hid ho
      go_wp2_with fail
      go_ret
      exact PInts.mk ho.out (Nat.le_refl _) (by omega) hx


theorem back_take (xs : List Int) (k : Nat) (h : k < xs.length) : (xs.drop k).reverse = (xs.drop (k+1)).reverse ++ [xs.getD k 0] := by
  rw [List.drop_eq_getElem_cons h, List.reverse_cons]; simp [h]
set_option maxHeartbeats 1600000 in
theorem back_c (xs : List Int) (v : Value) (w : World) (lo : Nat) (hv : Ints w lo v xs) :
    Calls Try.prog 20 #[v] w (PInts w xs.reverse) := by
  have hl4 := hv.len
  have hrl : xs.reverse.length = xs.length := by simp
  replace hrl := Lib.hid hrl
  obtain ⟨a1, c1, rfl⟩ := hv.form
  go_enter Try.func20, Try.ntmps20
  go_wp2_with fail
  go_loopw [3, 4] (fun v i wr => ∃ k : Nat, k ≤ xs.length ∧ i = .int .i64 ((k : Int) - 1) ∧ OwnI wr w.heap.size v (xs.drop k).reverse ∧ Ext w wr) (fun _ i _ => (intOf i + 1).toNat)
  case atStart => exact ⟨xs.length, Nat.le_refl _, rfl, by rw [List.drop_length]; exact OwnI.lit0 w w.heap.size (Nat.le_refl _), qXo⟩
  case round =>
    obtain ⟨k, hk, rfl, ho, hx⟩ := hrel
    have hz := hx.size
    have hl := Lib.hid (show (xs.drop k).reverse.length = xs.length - k by simp)
    by_cases hlt : 0 < k
    · obtain ⟨j, rfl⟩ : ∃ j, k = j + 1 := ⟨k - 1, by omega⟩
      have hI : (0 : Int) ≤ ((j + 1 : Nat) : Int) - 1 := by omega
      have hs := Lib.hid (back_take xs j (by omega))
      obtain ⟨b2, off2, rfl, hcell2⟩ := (hv.ext hx).at j (by omega)
      have hj : (((j + 1 : Nat) : Int) - 1) = (j : Int) := by omega
      rw [hj]
      generalize xs.getD j 0 = x at *
      have hI2 : (j : Int) < xs.length := by omega
      clear hI hj
      go_wp2_with (at_builtin; refine wpList_app rfl (.tmp 13) (.tmp 18) rfl rfl rfl (ho.ext ((Ext.refl _).alloc _)) (Ints.one _ 0 _ (Nat.zero_le _)) (by have := hl.out; simp only [List.length_cons, List.length_nil]; omega) (by simp; omega) ?_)
      intro v' w3 ho3 _ hb3 _
      have hx3 := (hx.alloc (.cells #[.int .i64 x] 3)).below hb3 (by omega)
      clear hb3 ho hcell2
      replace ho3 := Lib.hid ho3
      go_wp2_with fail
      go_roundw
      case rel => exact ⟨j, by omega, rfl, by rw [hs.out]; exact ho3.out, hx3⟩
      case measure => simp [intOf]
    · obtain rfl : k = 0 := by omega
      replace ho := Lib.hid ho
      go_wp2_with fail
      go_ret
      exact PInts.mk (by have := ho.out; rw [List.drop_zero] at this; exact this) (Nat.le_refl _) (by rw [hrl.out]; omega) hx

/-- the sum of numbers -/
def sumL (xs : List Int) : Int := xs.foldl (· + ·) 0
theorem sumL_take (xs : List Int) (k : Nat) (h : k < xs.length) : sumL (xs.take (k+1)) = sumL (xs.take k) + xs.getD k 0 := by
  unfold sumL; rw [List.take_succ_eq_append_getElem h, List.foldl_append]; simp [h]
theorem sumL_bd (xs : List Int) (h : ∀ x ∈ xs, -1000000 ≤ x ∧ x ≤ 1000000) : -(1000000 * (xs.length : Int)) ≤ sumL xs ∧ sumL xs ≤ 1000000 * (xs.length : Int) := by
  have key : ∀ (ys : List Int) (a : Int), (∀ x ∈ ys, -1000000 ≤ x ∧ x ≤ 1000000) → a - 1000000 * (ys.length : Int) ≤ ys.foldl (· + ·) a ∧ ys.foldl (· + ·) a ≤ a + 1000000 * (ys.length : Int) := by
    intro ys
    induction ys with
    | nil => intro a _; simp
    | cons y r ih =>
      intro a hy
      have h1 := hy y (by simp)
      have h2 := ih (a + y) (fun x hx => hy x (by simp [hx]))
      simp only [List.foldl_cons, List.length_cons]
      omega
  have := key xs 0 h
  unfold sumL; omega
theorem leqInts_e (xs ys : List Int) (a b : Value) (w : World) (la lb : Nat) (ha : Ints w la a xs) (hb : Ints w lb b ys) (he : xs = ys) :
    Calls Try.prog 27 #[a, b] w fun e w' => e = .returned (.bool true) ∧ Ext w w' := by
  subst he; exact leqInts_c xs a b w la lb ha hb
theorem leqView_e (b1 b2 : Int) (u1 v1 u2 v2 : Value) (s1 t1 s2 t2 : List Int) (w : World) (l1 m1 l2 m2 : Nat) (h1 : Ints w l1 u1 s1) (k1 : Ints w m1 v1 t1) (h2 : Ints w l2 u2 s2) (k2 : Ints w m2 v2 t2) (he : b1 = b2 ∧ s1 = s2 ∧ t1 = t2) :
    Calls Try.prog 33 #[.agg #[.int .i64 b1, u1, v1], .agg #[.int .i64 b2, u2, v2]] w fun e w' => e = .returned (.bool true) ∧ Ext w w' := by
  obtain ⟨rfl, rfl, rfl⟩ := he; exact leqView_c b1 u1 v1 u2 v2 s1 t1 w l1 m1 l2 m2 h1 k1 h2 k2

end Go.Proofs.Ytonnnjaooifpjaa

/- Walks: LoadView of the program and of the reference. -/
namespace Go.Proofs.Ytonnnjaooifpjaa
open Go.RowKit
set_option linter.unusedVariables false
set_option maxRecDepth 100000


def loadA (mem : List Int) (b : Int) (s t : List Int) : List Int := if holdB mem b s t then loadL mem b s t else []
theorem PInts.no {w w' : World} (h : Ext w w') : PInts w [] (.returned (.slice none 0 0)) w' :=
  ⟨_, rfl, Ints.nil _ _ _ _ (by simp) (fun _ => rfl), .inl ⟨rfl, none, 0, rfl, by simp, fun _ => rfl⟩, h⟩

set_option maxHeartbeats 1600000 in
theorem implLoadView_c (mem : List Int) (a0 : Value) (b1 : Int) (u1 v1 : Value) (s1 t1 : List Int) (w : World) (l0 l1 m1 : Nat) (h0 : Ints w l0 a0 mem) (h1 : Ints w l1 u1 s1) (k1 : Ints w m1 v1 t1) :
    Calls Try.prog 28 #[a0, .agg #[.int .i64 b1, u1, v1]] w (PInts w (loadA mem b1 s1 t1)) := by
  obtain ⟨p0, c0, rfl⟩ := h0.form
  obtain ⟨p1, c1, rfl⟩ := h1.form
  obtain ⟨p2, c2, rfl⟩ := k1.form
  go_enter Try.func28, Try.ntmps28
  go_wp2_with fail
  refine (canHold_c mem (.slice p0 mem.length c0) b1 (.slice p1 s1.length c1) (.slice p2 t1.length c2) s1 t1 _ _ _ _ (h0.ext qXt) (h1.ext qXt) (k1.ext qXt)).mono ?_
  rintro e w1 ⟨rfl, xw1⟩
  have Lw1 : Ext w w1 := Ext.trans qXt xw1
  have Xw1 : Ext w w1 := Lw1
  have b10 : w1.cell? ⟨w.heap.size, 0, none⟩ = some (.int .i64 b1) := xw1.cell qCl
  have b11 : w1.cell? ⟨w.heap.size, 1, none⟩ = some (.slice p1 s1.length c1) := xw1.cell qCl
  have b12 : w1.cell? ⟨w.heap.size, 2, none⟩ = some (.slice p2 t1.length c2) := xw1.cell qCl
  have z_b1 : w.heap.size < w1.heap.size := qB b10
  have s_w1 : w.heap.size ≤ w1.heap.size := Xw1.size
  clear xw1
  cases hB2 : holdB mem b1 s1 t1
  · replace hB2 := Lib.hid hB2
    go_wp2_with fail
    go_ret
    rw [show loadA mem b1 s1 t1 = [] by unfold loadA; rw [hB2.out]; rfl]
    exact PInts.no (Xw1.trans qXt)
  · replace hB2 := Lib.hid hB2
    go_wp2_with fail
    refine (loadView_c mem (.slice p0 mem.length c0) b1 (.slice p1 s1.length c1) (.slice p2 t1.length c2) s1 t1 _ _ _ _ (h0.ext (Xw1.trans qXt)) (h1.ext (Xw1.trans qXt)) (k1.ext (Xw1.trans qXt)) hB2.out).mono ?_
    rintro e w2 ⟨fv3, rfl, i4, i4z, xw2⟩
    have Lw2 : Ext w1 w2 := Ext.trans qXt xw2
    have Xw2 : Ext w w2 := Xw1.trans Lw2
    replace b10 := Lw2.cell b10
    replace b11 := Lw2.cell b11
    replace b12 := Lw2.cell b12
    have z_b1 : w.heap.size < w2.heap.size := qB b10
    have s_w2 : w.heap.size ≤ w2.heap.size := Xw2.size
    clear xw2
    obtain ⟨afv3, cfv3, rfl⟩ := i4.form
    go_wp2_with fail
    go_ret
    rw [show loadA mem b1 s1 t1 = loadL mem b1 s1 t1 by unfold loadA; rw [hB2.out]; rfl]
    exact ⟨_, rfl, i4.lower (by omega), i4z.lower (by omega), Xw2⟩

end Go.Proofs.Ytonnnjaooifpjaa

/- Walks: indices, ranks, rows, sums. -/
namespace Go.Proofs.Ytonnnjaooifpjaa
open Go.RowKit
set_option linter.unusedVariables false
set_option maxRecDepth 100000


theorem vw {b : Int} {s t : List Int} (h : viewB b s t = true) : s.length ≤ t.length ∧ (0 < countL s → ∀ e ∈ s, 1 ≤ e) ∧ countL s ≤ 1000000 ∧ Small s := by
  obtain ⟨h1, h2, h3, h4, h5⟩ := viewB_in h
  have h6 := shapeB_in h1
  exact ⟨by omega, h6.2.2.2.2, by omega, Small.of h1⟩
theorem sh {s : List Int} (h : shapeB s = true) : Small s ∧ (0 < countL s → ∀ e ∈ s, 1 ≤ e) ∧ countL s ≤ 1000000 := by
  have h6 := shapeB_in h
  exact ⟨Small.of h, h6.2.2.2.2, by omega⟩
/-- the first k numbers are within the extents -/
def OkTo (s r : List Int) (k : Nat) : Prop := ∀ j, j < k → 0 ≤ r.getD j 0 ∧ r.getD j 0 < s.getD j 0
theorem OkTo.zero (s r : List Int) : OkTo s r 0 := fun j h => absurd h (by omega)
theorem OkTo.succ {s r : List Int} {k : Nat} (h : OkTo s r k) {x e : Int} (hx : r.getD k 0 = x) (he : s.getD k 0 = e) (h1 : 0 ≤ x) (h2 : x < e) : OkTo s r (k+1) := fun j hj => by
  by_cases hjk : j = k
  · subst hjk; rw [hx, he]; exact ⟨h1, h2⟩
  · exact h j (by omega)
theorem ixOf_ok : ∀ (s r : List Int), r.length = s.length → (IxOf s r ↔ OkTo s r r.length)
  | [], [], _ => ⟨fun _ => OkTo.zero _ _, fun _ => trivial⟩
  | [], x :: r, h => by simp at h
  | e :: s, [], h => by simp at h
  | e :: s, x :: r, h => by
    have ih := ixOf_ok s r (by simpa using h)
    constructor
    · rintro ⟨h1, h2⟩ j hj
      cases j with
      | zero => simpa using h1
      | succ j => have := (ih.1 h2) j (by simpa using hj); simpa using this
    · intro hk
      refine ⟨by simpa using hk 0 (by simp), ih.2 fun j hj => by have := hk (j+1) (by simpa using hj); simpa using this⟩
theorem ixB_ok {s r : List Int} (hl : r.length = s.length) (h : OkTo s r r.length) : ixB s r = true := (ixB_iff s r).2 ((ixOf_ok s r hl).2 h)
theorem ixB_no {s r : List Int} {k : Nat} (hk : k < r.length) {x e : Int} (hx : r.getD k 0 = x) (he : s.getD k 0 = e) (h : x < 0 ∨ e ≤ x) : ixB s r = false := by
  cases hb : ixB s r with
  | false => rfl
  | true =>
    have h1 := (ixB_iff s r).1 hb
    have h2 := (ixOf_ok s r h1.len).1 h1 k hk
    rw [hx, he] at h2; omega
theorem ixB_len {s r : List Int} (h : r.length ≠ s.length) : ixB s r = false := by unfold ixB; simp [h]

set_option maxHeartbeats 1600000 in
theorem isIndex_c (s r : List Int) (v1 v2 : Value) (w : World) (l1 l2 : Nat) (h1 : Ints w l1 v1 s) (h2 : Ints w l2 v2 r) :
    Calls Try.prog 121 #[v1, v2] w (fun e w' => e = .returned (.bool (ixB s r)) ∧ w = w') := by
  have n1 := h1.len
  have n2 := h2.len
  obtain ⟨p1, c1, rfl⟩ := h1.form
  obtain ⟨p2, c2, rfl⟩ := h2.form
  go_enter Try.func121, Try.ntmps121
  by_cases hc1 : (r.length : Int) = (s.length : Int)
  · have hc1e : ((r.length : Int) == (s.length : Int)) = true := by simpa using hc1
    have hc1n : ((r.length : Int) != (s.length : Int)) = false := by simpa using hc1
    replace hc1 := Lib.hid hc1
    go_wp2_with fail
    go_loop [14] (fun i => ∃ (k : Nat), k ≤ r.length ∧ i = .int .i64 k ∧ Hid (OkTo s r k)) (fun i => r.length - (intOf i).toNat)
    case atStart => exact ⟨0, Nat.zero_le _, rfl, Lib.hid (OkTo.zero _ _)⟩
    case round =>
      obtain ⟨k, hk, rfl, hok⟩ := hrel
      by_cases hlt : k < r.length
      · have hkI : (k : Int) < r.length := by omega
        have hks : k < s.length := by have := hc1.out; omega
        obtain ⟨bl2, ol3, rfl, e40⟩ := h2.at k (by omega)
        obtain ⟨v5, hv5⟩ : ∃ v, r.getD k 0 = v := ⟨_, rfl⟩
        rw [hv5] at e40
        replace hv5 := Lib.hid hv5
        have y_e4 : bl2 < w.heap.size := qB e40
        have z_e4 := y_e4
        by_cases hc6 : (v5 : Int) < (0 : Int)
        · go_wp2_with fail
          go_ret
          exact ⟨by rw [show ixB s r = false from ixB_no (by omega) hv5.out rfl (by omega)] <;> rfl, rfl⟩
        · obtain ⟨bl7, ol8, rfl, e90⟩ := h1.at k (by omega)
          obtain ⟨v10, hv10⟩ : ∃ v, s.getD k 0 = v := ⟨_, rfl⟩
          rw [hv10] at e90
          replace hv10 := Lib.hid hv10
          have y_e9 : bl7 < w.heap.size := qB e90
          have z_e9 := y_e9
          by_cases hc11 : (v10 : Int) ≤ (v5 : Int)
          · go_wp2_with fail
            go_ret
            exact ⟨by rw [show ixB s r = false from ixB_no (by omega) hv5.out hv10.out (by omega)] <;> rfl, rfl⟩
          · go_wp2_with fail
            go_round
            case rel => exact ⟨k + 1, by omega, by go_num, Lib.hid (hok.out.succ hv5.out hv10.out (by omega) (by omega))⟩
            case measure => simp [intOf]; omega
      · have hkI : ¬ (k : Int) < r.length := by omega
        go_wp2_with fail
        go_ret
        exact ⟨by rw [show ixB s r = true from ixB_ok (by have := hc1.out; omega) (by have := hok.out; rwa [show k = r.length by omega] at this)] <;> rfl, rfl⟩
  · have hc1e : ((r.length : Int) == (s.length : Int)) = false := by simpa using hc1
    have hc1n : ((r.length : Int) != (s.length : Int)) = true := by simpa using hc1
    replace hc1 := Lib.hid hc1
    go_wp2_with fail
    go_ret
    exact ⟨by rw [show ixB s r = false from ixB_len (by have := hc1.out; omega)] <;> rfl, rfl⟩

end Go.Proofs.Ytonnnjaooifpjaa

/- Walks: ranks, indices, rows, sums. -/
namespace Go.Proofs.Ytonnnjaooifpjaa
open Go.RowKit
set_option linter.unusedVariables false
set_option maxRecDepth 100000


def rankA (s r : List Int) : Int := if shapeB s && ixB s r then rankC s r else -1
def idxA (s : List Int) (k : Int) : List Int := if shapeB s && (decide (0 ≤ k) && decide (k < countL s)) then (unrL s k).1 else []
def okA (b : Int) (s t r : List Int) : Bool := viewB b s t && ixB s r
def atA (b : Int) (s t r : List Int) : Int := if okA b s t r then dotL b r t else 0
def rowB (b : Int) (s t : List Int) : Bool := viewB b s t && sameB (offsL b s t) (offsL b s (rowS s))
def sumA (mem : List Int) (b : Int) (s t : List Int) : Int := if holdB mem b s t then sumL (loadL mem b s t) else -1
theorem ix_len {s r : List Int} (h : ixB s r = true) : r.length = s.length := ((ixB_iff s r).1 h).len
theorem loadL_bd {mem : List Int} {b : Int} {s t : List Int} (h : holdB mem b s t = true) : ∀ x ∈ loadL mem b s t, 0 ≤ x ∧ x ≤ 255 := by
 intro x hx
 obtain ⟨h1, h2, h3⟩ := hold_in h
 unfold loadL takL at hx
 obtain ⟨i, hi, rfl⟩ := List.mem_map.1 hx
 obtain ⟨g1, g2⟩ := h3 i hi
 have hm : mem.getD i.toNat 0 ∈ mem := getD_mem (by omega)
 unfold memB at h1
 simp only [Bool.and_eq_true, List.all_eq_true, decide_eq_true_eq, inB] at h1
 exact h1.2 _ hm
theorem loadL_len {mem : List Int} {b : Int} {s t : List Int} (h : holdB mem b s t = true) : (loadL mem b s t).length ≤ 60 := by
 unfold loadL; rw [takL_len, offs_count]
 have h1 := (viewB_in (hold_in h).2.1).1
 have := shapeB_in h1
 omega

set_option maxHeartbeats 1600000 in
theorem implRankOf_c (s r : List Int) (v1 v2 : Value) (w : World) (l1 l2 : Nat) (h1 : Ints w l1 v1 s) (h2 : Ints w l2 v2 r) :
  Calls Try.prog 87 #[v1, v2] w (fun e w' => e = .returned (.int .i64 (rankA s r)) ∧ w = w') := by
 have n1 := h1.len
 have n2 := h2.len
 obtain ⟨p0, c0, rfl⟩ := h1.form
 obtain ⟨p1, c1, rfl⟩ := h2.form
 go_enter Try.func87, Try.ntmps87
 go_wp2_with fail
 refine (isShape_c s (.slice p0 s.length c0) _ _ (h1.ext qXt)).mono ?_
 rintro e w' ⟨rfl, rfl⟩
 cases hB1 : shapeB s
 ·
  replace hB1 := Lib.hid hB1
  go_wp2_with fail
  go_ret
  exact ⟨by rw [show rankA s r = -1 by unfold rankA; rw [hB1.out]; rfl] <;> rfl, rfl⟩
 ·
  replace hB1 := Lib.hid hB1
  go_wp2_with fail
  refine (isIndex_c s r (.slice p0 s.length c0) (.slice p1 r.length c1) _ _ _ (h1.ext qXt) (h2.ext qXt)).mono ?_
  rintro e w' ⟨rfl, rfl⟩
  cases hB2 : ixB s r
  ·
   replace hB2 := Lib.hid hB2
   go_wp2_with fail
   go_ret
   exact ⟨by rw [show rankA s r = -1 by unfold rankA; rw [hB1.out, hB2.out]; rfl] <;> rfl, rfl⟩
  ·
   replace hB2 := Lib.hid hB2
   go_wp2_with fail
   go_loop [5, 19] (fun n i => ∃ (k : Nat), k ≤ r.length ∧ i = .int .i64 k ∧ n = .int .i64 (rankL (s.take k) r)) (fun _ i => r.length - (intOf i).toNat)
   case atStart => exact ⟨0, Nat.zero_le _, rfl, rfl⟩
   case round =>
    obtain ⟨k, hk, rfl, rfl⟩ := hrel
    by_cases hlt : k < r.length
    ·
     have hkI : (k : Int) < r.length := by omega
     have hks : k < s.length := by have := ix_len hB2.out; omega
     have hs := rankL_take s r k hks hlt
     obtain ⟨bl3, ol4, rfl, e50⟩ := h2.at k (by omega)
     obtain ⟨v6, hv6⟩ : ∃ v, r.getD k 0 = v := ⟨_, rfl⟩
     rw [hv6] at e50
     replace hv6 := Lib.hid hv6
     have y_e5 : bl3 < w.heap.size := qB e50
     have z_e5 := y_e5
     rw [hv6.out] at hs
     obtain ⟨bl7, ol8, rfl, e90⟩ := h1.at k (by omega)
     obtain ⟨v10, hv10⟩ : ∃ v, s.getD k 0 = v := ⟨_, rfl⟩
     rw [hv10] at e90
     replace hv10 := Lib.hid hv10
     have y_e9 : bl7 < w.heap.size := qB e90
     have z_e9 := y_e9
     rw [hv10.out] at hs
     replace hs := Lib.hid hs
     go_wp2_with fail
     go_round
     case rel => exact ⟨k + 1, by omega, by go_num, by rw [hs.out]⟩
     case measure => simp [intOf]; omega
    ·
     have hkI : ¬ (k : Int) < r.length := by omega
     go_wp2_with fail
     go_ret
     exact ⟨by rw [show rankA s r = rankL (s.take k) r by (unfold rankA; rw [hB1.out, hB2.out, List.take_of_length_le (by have := ix_len hB2.out; omega)]; exact (rankL_eq (ix_len hB2.out).symm (Small.of hB1.out) (ixB_small hB2.out (Small.of hB1.out))).symm)] <;> rfl, rfl⟩

set_option maxHeartbeats 1600000 in
theorem implIndexAt_c (s : List Int) (v1 : Value) (k : Int) (w : World) (l1 : Nat) (h1 : Ints w l1 v1 s) :
  Calls Try.prog 60 #[v1, .int .i64 k] w (PInts w (idxA s k)) := by
 obtain ⟨p0, c0, rfl⟩ := h1.form
 go_enter Try.func60, Try.ntmps60
 go_wp2_with fail
 refine (isShape_c s (.slice p0 s.length c0) _ _ (h1.ext qXt)).mono ?_
 rintro e w' ⟨rfl, rfl⟩
 cases hB1 : shapeB s
 ·
  replace hB1 := Lib.hid hB1
  go_wp2_with fail
  go_ret
  rw [show idxA s k = [] by unfold idxA; rw [hB1.out]; rfl]
  exact PInts.no qXt
 ·
  replace hB1 := Lib.hid hB1
  by_cases hc2 : (k : Int) < (0 : Int)
  ·
   go_wp2_with fail
   go_ret
   rw [show idxA s k = [] by unfold idxA; rw [hB1.out]; rw [if_neg (by simp only [Bool.true_and, Bool.and_eq_true, decide_eq_true_eq]; omega)]]
   exact PInts.no qXt
  ·
   go_wp2_with fail
   refine (countOf_c s (.slice p0 s.length c0) _ _ (h1.ext qXt)).mono ?_
   rintro e w' ⟨rfl, rfl⟩
   by_cases hc3 : (countL s : Int) ≤ (k : Int)
   ·
    go_wp2_with fail
    go_ret
    rw [show idxA s k = [] by unfold idxA; rw [hB1.out]; rw [if_neg (by simp only [Bool.true_and, Bool.and_eq_true, decide_eq_true_eq]; omega)]]
    exact PInts.no qXt
   ·
    go_wp2_with fail
    refine (indexAt_c s (.slice p0 s.length c0) k _ _ (h1.ext qXt) (by omega) (by have := (sh hB1.out).2.2; omega) ((sh hB1.out).2.1 (by omega))).mono ?_
    rintro e w1 ⟨fv4, rfl, i5, i5z, xw1⟩
    have Lw1 : Ext w w1 := Ext.trans qXt xw1
    have Xw1 : Ext w w1 := Lw1
    have s_w1 : w.heap.size ≤ w1.heap.size := Xw1.size
    clear xw1
    obtain ⟨afv4, cfv4, rfl⟩ := i5.form
    go_wp2_with fail
    go_ret
    rw [show idxA s k = (unrL s k).1 by unfold idxA; rw [hB1.out]; rw [if_pos (by simp only [Bool.true_and, Bool.and_eq_true, decide_eq_true_eq]; omega)]]
    exact ⟨_, rfl, i5.lower (by omega), i5z.lower (by omega), (Xw1.trans qXt)⟩

set_option maxHeartbeats 1600000 in
theorem implOffsetAt_c (b1 : Int) (u1 v1 : Value) (s1 t1 : List Int) (v3 : Value) (r : List Int) (w : World) (l1 m1 : Nat) (h1 : Ints w l1 u1 s1) (k1 : Ints w m1 v1 t1) (l3 : Nat) (h3 : Ints w l3 v3 r) :
  Calls Try.prog 61 #[.agg #[.int .i64 b1, u1, v1], v3] w (fun e w' => e = .returned (.tuple #[.int .i64 (atA b1 s1 t1 r), .bool (okA b1 s1 t1 r)]) ∧ Ext w w') := by
 obtain ⟨p0, c0, rfl⟩ := h1.form
 obtain ⟨p1, c1, rfl⟩ := k1.form
 obtain ⟨p2, c2, rfl⟩ := h3.form
 go_enter Try.func61, Try.ntmps61
 go_wp2_with fail
 refine (isView_c b1 (.slice p0 s1.length c0) (.slice p1 t1.length c1) s1 t1 _ _ _ (h1.ext qXt) (k1.ext qXt)).mono ?_
 rintro e w1 ⟨rfl, xw1⟩
 have Lw1 : Ext w w1 := Ext.trans qXt xw1
 have Xw1 : Ext w w1 := Lw1
 have b10 : w1.cell? ⟨w.heap.size, 0, none⟩ = some (.int .i64 b1) := xw1.cell qCl
 have b11 : w1.cell? ⟨w.heap.size, 1, none⟩ = some (.slice p0 s1.length c0) := xw1.cell qCl
 have b12 : w1.cell? ⟨w.heap.size, 2, none⟩ = some (.slice p1 t1.length c1) := xw1.cell qCl
 have z_b1 : w.heap.size < w1.heap.size := qB b10
 have s_w1 : w.heap.size ≤ w1.heap.size := Xw1.size
 clear xw1
 cases hB2 : viewB b1 s1 t1
 ·
  replace hB2 := Lib.hid hB2
  go_wp2_with fail
  go_ret2
  exact ⟨by rw [show okA b1 s1 t1 r = false by unfold okA; rw [hB2.out] <;> rfl, show atA b1 s1 t1 r = 0 by unfold atA okA; rw [hB2.out] <;> rfl] <;> rfl, (Xw1.trans qXt)⟩
 ·
  replace hB2 := Lib.hid hB2
  go_wp2_with fail
  refine (isIndex_c s1 r (.slice p0 s1.length c0) (.slice p2 r.length c2) _ _ _ (h1.ext (Xw1.trans qXt)) (h3.ext (Xw1.trans qXt))).mono ?_
  rintro e w' ⟨rfl, rfl⟩
  cases hB3 : ixB s1 r
  ·
   replace hB3 := Lib.hid hB3
   go_wp2_with fail
   go_ret2
   exact ⟨by rw [show okA b1 s1 t1 r = false by unfold okA; rw [hB2.out, hB3.out] <;> rfl, show atA b1 s1 t1 r = 0 by unfold atA okA; rw [hB2.out, hB3.out] <;> rfl] <;> rfl, (Xw1.trans qXt)⟩
  ·
   replace hB3 := Lib.hid hB3
   go_wp2_with fail
   refine (offsetAt_c b1 (.slice p0 s1.length c0) (.slice p1 t1.length c1) (.slice p2 r.length c2) t1 r _ _ _ (k1.ext (Xw1.trans qXt)) (h3.ext (Xw1.trans qXt)) (by have h7 := ix_len hB3.out; have h8 := (vw hB2.out).1; omega)).mono ?_
   rintro e w2 ⟨rfl, xw2⟩
   have Lw2 : Ext w1 w2 := Ext.trans qXt xw2
   have Xw2 : Ext w w2 := Xw1.trans Lw2
   replace b10 := Lw2.cell b10
   replace b11 := Lw2.cell b11
   replace b12 := Lw2.cell b12
   have z_b1 : w.heap.size < w2.heap.size := qB b10
   have s_w2 : w.heap.size ≤ w2.heap.size := Xw2.size
   clear xw2
   go_wp2_with fail
   go_ret2
   exact ⟨by rw [show okA b1 s1 t1 r = true by unfold okA; rw [hB2.out, hB3.out] <;> rfl, show atA b1 s1 t1 r = dotL b1 r t1 by unfold atA okA; rw [hB2.out, hB3.out] <;> rfl] <;> rfl, (Xw2.trans qXt)⟩

set_option maxHeartbeats 1600000 in
theorem implIsRow_c (b1 : Int) (u1 v1 : Value) (s1 t1 : List Int) (w : World) (l1 m1 : Nat) (h1 : Ints w l1 u1 s1) (k1 : Ints w m1 v1 t1) :
  Calls Try.prog 22 #[.agg #[.int .i64 b1, u1, v1]] w (fun e w' => e = .returned (.bool (rowB b1 s1 t1)) ∧ Ext w w') := by
 obtain ⟨p0, c0, rfl⟩ := h1.form
 obtain ⟨p1, c1, rfl⟩ := k1.form
 go_enter Try.func22, Try.ntmps22
 go_wp2_with fail
 refine (isView_c b1 (.slice p0 s1.length c0) (.slice p1 t1.length c1) s1 t1 _ _ _ (h1.ext qXt) (k1.ext qXt)).mono ?_
 rintro e w1 ⟨rfl, xw1⟩
 have Lw1 : Ext w w1 := Ext.trans qXt xw1
 have Xw1 : Ext w w1 := Lw1
 have b10 : w1.cell? ⟨w.heap.size, 0, none⟩ = some (.int .i64 b1) := xw1.cell qCl
 have b11 : w1.cell? ⟨w.heap.size, 1, none⟩ = some (.slice p0 s1.length c0) := xw1.cell qCl
 have b12 : w1.cell? ⟨w.heap.size, 2, none⟩ = some (.slice p1 t1.length c1) := xw1.cell qCl
 have z_b1 : w.heap.size < w1.heap.size := qB b10
 have s_w1 : w.heap.size ≤ w1.heap.size := Xw1.size
 clear xw1
 cases hB2 : viewB b1 s1 t1
 ·
  replace hB2 := Lib.hid hB2
  go_wp2_with fail
  go_ret
  exact ⟨by rw [show rowB b1 s1 t1 = false by unfold rowB; rw [hB2.out] <;> rfl] <;> rfl, (Xw1.trans qXt)⟩
 ·
  replace hB2 := Lib.hid hB2
  go_wp2_with fail
  refine wp_region_tail (S := fun w' => w'.cell? ⟨w.heap.size, 0, none⟩ = some (.int .i64 b1) ∧ w'.cell? ⟨w.heap.size, 1, none⟩ = some (.slice p0 s1.length c0) ∧ w'.cell? ⟨w.heap.size, 2, none⟩ = some (.slice p1 t1.length c1)) (fun i => decide (13 ≤ i)) qKr ⟨b10, b11, b12⟩ (fun hHeld => ?_)
  refine qTk (v := ?_) 0 rfl (.inl ⟨by rfl, ?_⟩) ?_
  rotate_left
  ·
   (intro w hSw; (try dsimp only at hSw); go_simp; try with_reducible rfl)
  try simp only [Act.put, qa, qb, qc, qD, qE, qF]
  refine qTk (v := ?_) 2 rfl (.inl ⟨by rfl, ?_⟩) ?_
  rotate_left
  ·
   (intro w hSw; (try dsimp only at hSw); go_simp; try with_reducible rfl)
  try simp only [Act.put, qa, qb, qc, qD, qE, qF]
  refine qTk (v := ?_) 3 rfl (.inl ⟨by rfl, ?_⟩) ?_
  rotate_left
  ·
   (intro w hSw; (try dsimp only at hSw); go_simp; try with_reducible rfl)
  try simp only [Act.put, qa, qb, qc, qD, qE, qF]
  refine qTk (v := ?_) 4 rfl (.inl ⟨by rfl, ?_⟩) ?_
  rotate_left
  ·
   (intro w hSw; (try dsimp only at hSw); go_simp; try with_reducible rfl)
  try simp only [Act.put, qa, qb, qc, qD, qE, qF]
  refine qTk (v := ?_) 5 rfl (.inl ⟨by rfl, ?_⟩) ?_
  rotate_left
  ·
   (intro w hSw; (try dsimp only at hSw); go_simp; try with_reducible rfl)
  try simp only [Act.put, qa, qb, qc, qD, qE, qF]
  refine qTk (v := ?_) 6 rfl (.inl ⟨by rfl, ?_⟩) ?_
  rotate_left
  ·
   (intro w hSw; (try dsimp only at hSw); go_simp; try with_reducible rfl)
  try simp only [Act.put, qa, qb, qc, qD, qE, qF]
  refine qTk (v := ?_) 7 rfl (.inl ⟨by rfl, ?_⟩) ?_
  rotate_left
  ·
   (intro w hSw; (try dsimp only at hSw); go_simp; try with_reducible rfl)
  try simp only [Act.put, qa, qb, qc, qD, qE, qF]
  refine wpTail_one (i := 1) qKr rfl rfl (fun K hK => ?_)
  try simp only [Act.put, qa, qb, qc, qD, qE, qF]
  go_simp
  refine (offsetsOf_c b1 (.slice p0 s1.length c0) (.slice p1 t1.length c1) s1 t1 _ _ _ (h1.ext (Xw1.trans qXt)) (k1.ext (Xw1.trans qXt)) (by first | omega | exact (vw hB2.out).1 | exact (vw hB2.out).2.1 | exact (vw hB2.out).2.2.1 | exact (vw hB2.out).2.2.2) (by first | omega | exact (vw hB2.out).1 | exact (vw hB2.out).2.1 | exact (vw hB2.out).2.2.1 | exact (vw hB2.out).2.2.2) (by first | omega | exact (vw hB2.out).1 | exact (vw hB2.out).2.1 | exact (vw hB2.out).2.2.1 | exact (vw hB2.out).2.2.2)).mono ?_
  rintro e w2 ⟨fv3, rfl, i4, -, xw2⟩
  have Lw2 : Ext w1 w2 := Ext.trans qXt xw2
  have Xw2 : Ext w w2 := Xw1.trans Lw2
  replace b10 := Lw2.cell b10
  replace b11 := Lw2.cell b11
  replace b12 := Lw2.cell b12
  have z_b1 : w.heap.size < w2.heap.size := qB b10
  have s_w2 : w.heap.size ≤ w2.heap.size := Xw2.size
  clear xw2
  obtain ⟨afv3, cfv3, rfl⟩ := i4.form
  refine hK.out _ _ ⟨b10, b11, b12⟩ (fun hHeld => ?_)
  clear hK K
  try simp only [Act.put, qa, qb, qc, qD, qE, qF]
  refine wpTail_one (i := 8) qKr rfl rfl (fun K hK => ?_)
  try simp only [Act.put, qa, qb, qc, qD, qE, qF]
  go_simp
  refine (implRowStrides_c s1 (.slice p0 s1.length c0) _ _ (h1.ext (Xw2.trans qXt)) (by first | omega | exact (vw hB2.out).1 | exact (vw hB2.out).2.1 | exact (vw hB2.out).2.2.1 | exact (vw hB2.out).2.2.2)).mono ?_
  rintro e w3 ⟨fv5, rfl, i6, -, xw3⟩
  have Lw3 : Ext w2 w3 := Ext.trans qXt xw3
  have Xw3 : Ext w w3 := Xw2.trans Lw3
  replace b10 := Lw3.cell b10
  replace b11 := Lw3.cell b11
  replace b12 := Lw3.cell b12
  have z_b1 : w.heap.size < w3.heap.size := qB b10
  replace i4 := i4.ext Lw3
  have s_w3 : w.heap.size ≤ w3.heap.size := Xw3.size
  clear xw3
  obtain ⟨afv5, cfv5, rfl⟩ := i6.form
  refine hK.out _ _ ⟨b10, b11, b12⟩ (fun hHeld => ?_)
  clear hK K
  try simp only [Act.put, qa, qb, qc, qD, qE, qF]
  refine qTk (v := ?_) 9 rfl (.inl ⟨by rfl, ?_⟩) ?_
  rotate_left
  ·
   (intro w hSw; (try dsimp only at hSw); go_simp; try with_reducible rfl)
  try simp only [Act.put, qa, qb, qc, qD, qE, qF]
  refine wpTail_one (i := 10) qKr rfl rfl (fun K hK => ?_)
  try simp only [Act.put, qa, qb, qc, qD, qE, qF]
  go_simp
  refine (offsetsOf_c b1 (.slice p0 s1.length c0) (.slice afv5 ((rowS s1).length) cfv5) s1 (rowS s1) _ _ _ (h1.ext (Xw3.trans qXt)) (i6.ext qXt) (by first | omega | exact (vw hB2.out).1 | exact (vw hB2.out).2.1 | exact (vw hB2.out).2.2.1 | exact (vw hB2.out).2.2.2 | (rw [rowS_len]; omega) | exact Nat.le_of_eq (rowS_len _).symm) (by first | omega | exact (vw hB2.out).1 | exact (vw hB2.out).2.1 | exact (vw hB2.out).2.2.1 | exact (vw hB2.out).2.2.2) (by first | omega | exact (vw hB2.out).1 | exact (vw hB2.out).2.1 | exact (vw hB2.out).2.2.1 | exact (vw hB2.out).2.2.2)).mono ?_
  rintro e w4 ⟨fv7, rfl, i8, -, xw4⟩
  have Lw4 : Ext w3 w4 := Ext.trans qXt xw4
  have Xw4 : Ext w w4 := Xw3.trans Lw4
  replace b10 := Lw4.cell b10
  replace b11 := Lw4.cell b11
  replace b12 := Lw4.cell b12
  have z_b1 : w.heap.size < w4.heap.size := qB b10
  replace i4 := i4.ext Lw4
  replace i6 := i6.ext Lw4
  have s_w4 : w.heap.size ≤ w4.heap.size := Xw4.size
  clear xw4
  obtain ⟨afv7, cfv7, rfl⟩ := i8.form
  refine hK.out _ _ ⟨b10, b11, b12⟩ (fun hHeld => ?_)
  clear hK K
  try simp only [Act.put, qa, qb, qc, qD, qE, qF]
  refine wpTail_one (i := 11) qKr rfl rfl (fun K hK => ?_)
  try simp only [Act.put, qa, qb, qc, qD, qE, qF]
  go_simp
  refine (equal_x (offsL b1 s1 t1) (offsL b1 s1 (rowS s1)) (.slice afv3 ((offsL b1 s1 t1).length) cfv3) (.slice afv7 ((offsL b1 s1 (rowS s1)).length) cfv7) _ _ _ (i4.ext qXt) (i8.ext qXt)).mono ?_
  rintro e w5 ⟨rfl, xw5⟩
  have Lw5 : Ext w4 w5 := Ext.trans qXt xw5
  have Xw5 : Ext w w5 := Xw4.trans Lw5
  replace b10 := Lw5.cell b10
  replace b11 := Lw5.cell b11
  replace b12 := Lw5.cell b12
  have z_b1 : w.heap.size < w5.heap.size := qB b10
  replace i4 := i4.ext Lw5
  replace i6 := i6.ext Lw5
  replace i8 := i8.ext Lw5
  have s_w5 : w.heap.size ≤ w5.heap.size := Xw5.size
  clear xw5
  cases hB9 : sameB (offsL b1 s1 t1) (offsL b1 s1 (rowS s1))
  ·
   replace hB9 := Lib.hid hB9
   refine hK.out _ _ ⟨b10, b11, b12⟩ (fun hHeld => ?_)
   clear hK K
   try simp only [Act.put, qa, qb, qc, qD, qE, qF]
   refine qTk (v := ?_) 12 rfl (.inl ⟨by rfl, ?_⟩) ?_
   rotate_left
   ·
    (intro w hSw; (try dsimp only at hSw); go_simp; try with_reducible rfl)
   try simp only [Act.put, qa, qb, qc, qD, qE, qF]
   refine wpTail_done qKr ?_ _
   clear hHeld 
   go_wp2_with fail
   go_ret
   exact ⟨by rw [show rowB b1 s1 t1 = false by unfold rowB; rw [hB2.out, hB9.out] <;> rfl] <;> rfl, (Xw5.trans qXt)⟩
  ·
   replace hB9 := Lib.hid hB9
   refine hK.out _ _ ⟨b10, b11, b12⟩ (fun hHeld => ?_)
   clear hK K
   try simp only [Act.put, qa, qb, qc, qD, qE, qF]
   refine qTk (v := ?_) 12 rfl (.inl ⟨by rfl, ?_⟩) ?_
   rotate_left
   ·
    (intro w hSw; (try dsimp only at hSw); go_simp; try with_reducible rfl)
   try simp only [Act.put, qa, qb, qc, qD, qE, qF]
   refine wpTail_done qKr ?_ _
   clear hHeld 
   go_wp2_with fail
   go_ret
   exact ⟨by rw [show rowB b1 s1 t1 = true by unfold rowB; rw [hB2.out, hB9.out] <;> rfl] <;> rfl, (Xw5.trans qXt)⟩

set_option maxHeartbeats 1600000 in
theorem dense_c (b1 : Int) (u1 v1 : Value) (s1 t1 : List Int) (v3 : Value) (r : List Int) (w : World) (l1 m1 : Nat) (h1 : Ints w l1 u1 s1) (k1 : Ints w m1 v1 t1) (l3 : Nat) (h3 : Ints w l3 v3 r) (ha : viewB b1 s1 t1 = true) (hl : s1.length ≤ r.length) :
  Calls Try.prog 74 #[.agg #[.int .i64 b1, u1, v1], v3] w (fun e w' => e = .returned (.bool (sameB (offsL b1 s1 t1) (offsL b1 s1 r))) ∧ Ext w w') := by
 obtain ⟨p0, c0, rfl⟩ := h1.form
 obtain ⟨p1, c1, rfl⟩ := k1.form
 obtain ⟨p2, c2, rfl⟩ := h3.form
 replace ha := Lib.hid ha
 go_enter Try.func74, Try.ntmps74
 go_wp2_with fail
 generalize hW1 : w.alloc (.cells #[.int .i64 b1, .slice p0 s1.length c0, .slice p1 t1.length c1] 25) = w1 at *
 have Lw1 : Ext w w1 := by subst hW1; exact qXt
 have Xw1 : Ext w w1 := by subst hW1; exact Lw1
 have b10 : w1.cell? ⟨w.heap.size, 0, none⟩ = some (.int .i64 b1) := by subst hW1; exact qCl
 have b11 : w1.cell? ⟨w.heap.size, 1, none⟩ = some (.slice p0 s1.length c0) := by subst hW1; exact qCl
 have b12 : w1.cell? ⟨w.heap.size, 2, none⟩ = some (.slice p1 t1.length c1) := by subst hW1; exact qCl
 have z_b1 : w.heap.size < w1.heap.size := qB b10
 have s_w1 : w.heap.size ≤ w1.heap.size := Xw1.size
 clear hW1
 refine wp_region_tail (S := fun w' => w'.cell? ⟨w.heap.size, 0, none⟩ = some (.int .i64 b1) ∧ w'.cell? ⟨w.heap.size, 1, none⟩ = some (.slice p0 s1.length c0) ∧ w'.cell? ⟨w.heap.size, 2, none⟩ = some (.slice p1 t1.length c1)) (fun i => decide (11 ≤ i)) qKr ⟨b10, b11, b12⟩ (fun hHeld => ?_)
 refine qTk (v := ?_) 0 rfl (.inl ⟨by rfl, ?_⟩) ?_
 rotate_left
 ·
  (intro w hSw; (try dsimp only at hSw); go_simp; try with_reducible rfl)
 try simp only [Act.put, qa, qb, qc, qD, qE, qF]
 refine qTk (v := ?_) 2 rfl (.inl ⟨by rfl, ?_⟩) ?_
 rotate_left
 ·
  (intro w hSw; (try dsimp only at hSw); go_simp; try with_reducible rfl)
 try simp only [Act.put, qa, qb, qc, qD, qE, qF]
 refine qTk (v := ?_) 3 rfl (.inl ⟨by rfl, ?_⟩) ?_
 rotate_left
 ·
  (intro w hSw; (try dsimp only at hSw); go_simp; try with_reducible rfl)
 try simp only [Act.put, qa, qb, qc, qD, qE, qF]
 refine qTk (v := ?_) 4 rfl (.inl ⟨by rfl, ?_⟩) ?_
 rotate_left
 ·
  (intro w hSw; (try dsimp only at hSw); go_simp; try with_reducible rfl)
 try simp only [Act.put, qa, qb, qc, qD, qE, qF]
 refine qTk (v := ?_) 5 rfl (.inl ⟨by rfl, ?_⟩) ?_
 rotate_left
 ·
  (intro w hSw; (try dsimp only at hSw); go_simp; try with_reducible rfl)
 try simp only [Act.put, qa, qb, qc, qD, qE, qF]
 refine qTk (v := ?_) 6 rfl (.inl ⟨by rfl, ?_⟩) ?_
 rotate_left
 ·
  (intro w hSw; (try dsimp only at hSw); go_simp; try with_reducible rfl)
 try simp only [Act.put, qa, qb, qc, qD, qE, qF]
 refine qTk (v := ?_) 7 rfl (.inl ⟨by rfl, ?_⟩) ?_
 rotate_left
 ·
  (intro w hSw; (try dsimp only at hSw); go_simp; try with_reducible rfl)
 try simp only [Act.put, qa, qb, qc, qD, qE, qF]
 refine wpTail_one (i := 1) qKr rfl rfl (fun K hK => ?_)
 try simp only [Act.put, qa, qb, qc, qD, qE, qF]
 go_simp
 refine (offsets_c b1 (.slice p0 s1.length c0) (.slice p1 t1.length c1) s1 t1 _ _ _ (h1.ext (Xw1.trans qXt)) (k1.ext (Xw1.trans qXt)) (by first | omega | exact (vw ha.out).1 | exact (vw ha.out).2.1 | exact (vw ha.out).2.2.1 | exact (vw ha.out).2.2.2) (by first | omega | exact (vw ha.out).1 | exact (vw ha.out).2.1 | exact (vw ha.out).2.2.1 | exact (vw ha.out).2.2.2) (by first | omega | exact (vw ha.out).1 | exact (vw ha.out).2.1 | exact (vw ha.out).2.2.1 | exact (vw ha.out).2.2.2)).mono ?_
 rintro e w2 ⟨fv2, rfl, i3, -, xw2⟩
 have Lw2 : Ext w1 w2 := Ext.trans qXt xw2
 have Xw2 : Ext w w2 := Xw1.trans Lw2
 replace b10 := Lw2.cell b10
 replace b11 := Lw2.cell b11
 replace b12 := Lw2.cell b12
 have z_b1 : w.heap.size < w2.heap.size := qB b10
 have s_w2 : w.heap.size ≤ w2.heap.size := Xw2.size
 clear xw2
 obtain ⟨afv2, cfv2, rfl⟩ := i3.form
 refine hK.out _ _ ⟨b10, b11, b12⟩ (fun hHeld => ?_)
 clear hK K
 try simp only [Act.put, qa, qb, qc, qD, qE, qF]
 refine wpTail_one (i := 8) qKr rfl rfl (fun K hK => ?_)
 try simp only [Act.put, qa, qb, qc, qD, qE, qF]
 go_simp
 refine (offsets_c b1 (.slice p0 s1.length c0) (.slice p2 r.length c2) s1 r _ _ _ (h1.ext (Xw2.trans qXt)) (h3.ext (Xw2.trans qXt)) (by omega) (by first | omega | exact (vw ha.out).1 | exact (vw ha.out).2.1 | exact (vw ha.out).2.2.1 | exact (vw ha.out).2.2.2) (by first | omega | exact (vw ha.out).1 | exact (vw ha.out).2.1 | exact (vw ha.out).2.2.1 | exact (vw ha.out).2.2.2)).mono ?_
 rintro e w3 ⟨fv4, rfl, i5, -, xw3⟩
 have Lw3 : Ext w2 w3 := Ext.trans qXt xw3
 have Xw3 : Ext w w3 := Xw2.trans Lw3
 replace b10 := Lw3.cell b10
 replace b11 := Lw3.cell b11
 replace b12 := Lw3.cell b12
 have z_b1 : w.heap.size < w3.heap.size := qB b10
 replace i3 := i3.ext Lw3
 have s_w3 : w.heap.size ≤ w3.heap.size := Xw3.size
 clear xw3
 obtain ⟨afv4, cfv4, rfl⟩ := i5.form
 refine hK.out _ _ ⟨b10, b11, b12⟩ (fun hHeld => ?_)
 clear hK K
 try simp only [Act.put, qa, qb, qc, qD, qE, qF]
 refine wpTail_one (i := 9) qKr rfl rfl (fun K hK => ?_)
 try simp only [Act.put, qa, qb, qc, qD, qE, qF]
 go_simp
 refine (sameInts_c (offsL b1 s1 t1) (offsL b1 s1 r) (.slice afv2 ((offsL b1 s1 t1).length) cfv2) (.slice afv4 ((offsL b1 s1 r).length) cfv4) _ _ _ (i3.ext qXt) (i5.ext qXt)).mono ?_
 rintro e w4 ⟨rfl, xw4⟩
 have Lw4 : Ext w3 w4 := Ext.trans qXt xw4
 have Xw4 : Ext w w4 := Xw3.trans Lw4
 replace b10 := Lw4.cell b10
 replace b11 := Lw4.cell b11
 replace b12 := Lw4.cell b12
 have z_b1 : w.heap.size < w4.heap.size := qB b10
 replace i3 := i3.ext Lw4
 replace i5 := i5.ext Lw4
 have s_w4 : w.heap.size ≤ w4.heap.size := Xw4.size
 clear xw4
 cases hB6 : sameB (offsL b1 s1 t1) (offsL b1 s1 r)
 ·
  replace hB6 := Lib.hid hB6
  refine hK.out _ _ ⟨b10, b11, b12⟩ (fun hHeld => ?_)
  clear hK K
  try simp only [Act.put, qa, qb, qc, qD, qE, qF]
  refine qTk (v := ?_) 10 rfl (.inl ⟨by rfl, ?_⟩) ?_
  rotate_left
  ·
   (intro w hSw; (try dsimp only at hSw); go_simp; try with_reducible rfl)
  try simp only [Act.put, qa, qb, qc, qD, qE, qF]
  refine wpTail_done qKr ?_ _
  clear hHeld 
  go_wp2_with fail
  go_ret
  exact ⟨by rw [hB6.out] <;> rfl, (Xw4.trans qXt)⟩
 ·
  replace hB6 := Lib.hid hB6
  refine hK.out _ _ ⟨b10, b11, b12⟩ (fun hHeld => ?_)
  clear hK K
  try simp only [Act.put, qa, qb, qc, qD, qE, qF]
  refine qTk (v := ?_) 10 rfl (.inl ⟨by rfl, ?_⟩) ?_
  rotate_left
  ·
   (intro w hSw; (try dsimp only at hSw); go_simp; try with_reducible rfl)
  try simp only [Act.put, qa, qb, qc, qD, qE, qF]
  refine wpTail_done qKr ?_ _
  clear hHeld 
  go_wp2_with fail
  go_ret
  exact ⟨by rw [hB6.out] <;> rfl, (Xw4.trans qXt)⟩


end Go.Proofs.Ytonnnjaooifpjaa

/- Plain laws: views with their dimensions in another order. -/
namespace Go.Proofs.Ytonnnjaooifpjaa
open Go.RowKit
set_option linter.unusedVariables false
set_option maxRecDepth 100000

theorem perm_of_sub {α : Type} [BEq α] [LawfulBEq α] : ∀ (l m : List α), l.Nodup → m.Nodup → (∀ x ∈ l, x ∈ m) → l.length = m.length → l.Perm m
  | [], m, _, _, _, h => by cases m <;> simp_all
  | a :: l, m, hl, hm, hs, h => by
    have ha : a ∈ m := hs a (by simp)
    have p := List.perm_cons_erase ha
    refine List.Perm.trans ?_ p.symm
    refine List.Perm.cons a (perm_of_sub l (m.erase a) (List.nodup_cons.1 hl).2 (hm.erase a) ?_ ?_)
    · intro x hx
      rw [hm.mem_erase_iff]
      exact ⟨fun e => (List.nodup_cons.1 hl).1 (e ▸ hx), hs x (by simp [hx])⟩
    · have := p.length_eq; simp at this h ⊢; omega
theorem orderB_in {ord : List Int} {n : Nat} (h : orderB ord n = true) : ord.length = n ∧ (∀ x ∈ ord, 0 ≤ x ∧ x < n) ∧ ord.Nodup := by
  unfold orderB at h
  simp only [Bool.and_eq_true, decide_eq_true_eq, List.all_eq_true, inB] at h
  obtain ⟨h1, h2, h3⟩ := h
  exact ⟨by omega, fun x hx => by have := h2 x hx; omega, h3⟩
theorem upL_nodup (n : Nat) : (upL n).Nodup := by
  unfold upL
  rw [List.nodup_iff_pairwise_ne, List.pairwise_map]
  exact (List.nodup_range (n := n)).imp fun h e => h (by omega)
theorem upL_len (n : Nat) : (upL n).length = n := by simp [upL]
theorem order_perm {ord : List Int} {n : Nat} (h : orderB ord n = true) : ord.Perm (upL n) := by
  obtain ⟨h1, h2, h3⟩ := orderB_in h
  exact perm_of_sub _ _ h3 (upL_nodup n) (fun x hx => (upL_mem n x).2 (h2 x hx)) (by rw [h1, upL_len])
theorem order_of {ord : List Int} {n : Nat} (h : ord.Perm (upL n)) : orderB ord n = true := by
  unfold orderB
  simp only [Bool.and_eq_true, decide_eq_true_eq, List.all_eq_true, inB]
  refine ⟨by have := h.length_eq; rw [upL_len] at this; omega, fun x hx => by have := (upL_mem n x).1 (h.mem_iff.1 hx); omega, (h.nodup_iff).2 (upL_nodup n)⟩
theorem order_back (n : Nat) : orderB (upL n).reverse n = true := order_of (List.reverse_perm _)
theorem zip_take (s t ord : List Int) : (takL s ord).zip (takL t ord) = ord.map fun i => (s.getD i.toNat 0, t.getD i.toNat 0) := by
  unfold takL; induction ord with
  | nil => rfl
  | cons a o ih => simp only [List.map_cons, List.zip_cons_cons, ih]
theorem zip_up (s t : List Int) (h : t.length = s.length) : ((upL s.length).map fun i => (s.getD i.toNat 0, t.getD i.toNat 0)) = s.zip t := by
  apply List.ext_getElem
  · simp [upL, h]
  · intro i h1 h2
    simp [upL] at h1 ⊢
    simp [h1, h]
theorem take_up (s : List Int) : takL s (upL s.length) = s := by
  apply List.ext_getElem
  · simp [takL, upL]
  · intro i h1 h2
    simp [takL, upL] at h1 ⊢
    simp [h1]
theorem zip_perm {s t ord : List Int} (h : t.length = s.length) (ho : orderB ord s.length = true) : ((takL s ord).zip (takL t ord)).Perm (s.zip t) := by
  rw [zip_take, ← zip_up s t h]
  exact (order_perm ho).map _
theorem take_perm {s ord : List Int} (ho : orderB ord s.length = true) : (takL s ord).Perm s := by
  have := (order_perm ho).map fun i : Int => s.getD i.toNat 0
  exact this.trans (by have := take_up s; unfold takL at this; rw [this])
theorem prodL_perm {a b : List Int} (h : a.Perm b) : prodL a = prodL b := by
  induction h with
  | nil => rfl
  | cons x _ ih => rw [prodL_cons, prodL_cons, ih]
  | swap x y l => simp only [prodL_cons]; rw [← Int.mul_assoc, ← Int.mul_assoc, Int.mul_comm y x]
  | trans _ _ ih1 ih2 => rw [ih1, ih2]
theorem perm_small {s ord : List Int} (hs : Small s) (ho : orderB ord s.length = true) : Small (takL s ord) :=
  ⟨by rw [takL_len, (orderB_in ho).1]; exact hs.1, fun e he => hs.2 e ((take_perm ho).mem_iff.1 he)⟩
theorem perm_count {s ord : List Int} (hs : Small s) (ho : orderB ord s.length = true) : countL (takL s ord) = countL s := by
  rw [hs.count.1, (perm_small hs ho).count.1, prodL_perm (take_perm ho)]
theorem perm_view {b : Int} {s t ord : List Int} (h : viewB b s t = true) (ho : orderB ord s.length = true) :
    viewB b (takL s ord) (takL t ord) = true ∧ (offsL b (takL s ord) (takL t ord)).Perm (offsL b s t) := by
  have hs := view_small h
  obtain ⟨h1, h2, h3, h4, h5⟩ := viewB_in h
  have hc := shapeB_in h1
  have hl : (takL t ord).length = (takL s ord).length := by rw [takL_len, takL_len]
  have ht : (takL t ord).Perm t := take_perm (by rw [h2]; exact ho)
  have ho' : orderB ord t.length = true := by rw [h2]; exact ho
  have hs' := perm_small hs ho
  have hm := view_mild h
  have hm' : Mild b (takL t ord) := ⟨hm.1, fun x hx => hm.2 x (ht.mem_iff.1 hx)⟩
  have hp : (offsL b (takL s ord) (takL t ord)).Perm (offsL b s t) := by
    rw [offs_C hs' hm', offs_C hs hm, offC_P _ _ _ hl, offC_P _ _ _ h2]
    exact offP_perm b (zip_perm h2 ho)
  refine ⟨viewB_mk (shapeB_mk hs' (by rw [perm_count hs ho]; omega)) hl h3 (fun x hx => h4 x (ht.mem_iff.1 hx)) (fun x hx => h5 x (hp.mem_iff.1 hx)), hp⟩

end Go.Proofs.Ytonnnjaooifpjaa

/- Plain laws: views without a dimension. -/
namespace Go.Proofs.Ytonnnjaooifpjaa
open Go.RowKit
set_option linter.unusedVariables false
set_option maxRecDepth 100000

theorem delL_mem {xs : List Int} {d : Nat} {x : Int} (h : x ∈ delL xs d) : x ∈ xs := by
  unfold delL at h
  rcases List.mem_append.1 h with h | h
  · exact List.mem_of_mem_take h
  · exact List.mem_of_mem_drop h
theorem delL_zero (x : Int) (xs : List Int) : delL (x :: xs) 0 = xs := by simp [delL]
theorem delL_succ (x : Int) (xs : List Int) (d : Nat) : delL (x :: xs) (d + 1) = x :: delL xs d := by simp [delL]
theorem del_small {s : List Int} (hs : Small s) (d : Nat) (hd : d < s.length) : Small (delL s d) :=
  ⟨by rw [delL_len s d hd]; have := hs.1; omega, fun e he => hs.2 e (delL_mem he)⟩
theorem del_prod : ∀ (s : List Int) (d : Nat), d < s.length → prodL s = s.getD d 0 * prodL (delL s d)
  | [], d, h => by simp at h
  | x :: s, 0, _ => by rw [delL_zero, prodL_cons]; simp
  | x :: s, d+1, h => by
    rw [delL_succ, prodL_cons, prodL_cons, del_prod s d (by simpa using h)]
    simp only [List.getD_cons_succ]
    rw [← Int.mul_assoc, ← Int.mul_assoc, Int.mul_comm x]
/-- cells with a number in a dimension -/
theorem dot_del : ∀ (r t : List Int) (d : Nat) (b x : Int), d ≤ r.length → d < t.length → r.length + 1 = t.length → dotC b (r.take d ++ x :: r.drop d) t = dotC (b + x * t.getD d 0) r (delL t d)
  | r, y :: t, 0, b, x, _, _, _ => by
    rw [delL_zero]; simp only [List.take_zero, List.nil_append, List.drop_zero, dotC, List.getD_cons_zero]
    rw [dotC_add]; omega
  | z :: r, y :: t, d+1, b, x, h1, h2, h3 => by
    rw [delL_succ]; simp only [List.take_succ_cons, List.cons_append, List.drop_succ_cons, dotC, List.getD_cons_succ]
    rw [dot_del r t d b x (by simpa using h1) (by simpa using h2) (by simpa using h3)]
  | [], _ :: _, d+1, _, _, h, _, _ => by simp at h
  | _, [], _, _, _, _, h, _ => by simp at h
theorem ix_ins : ∀ (s r : List Int) (d : Nat) (x : Int), d < s.length → IxOf (delL s d) r → 0 ≤ x → x < s.getD d 0 → IxOf s (r.take d ++ x :: r.drop d)
  | e :: s, r, 0, x, _, h, h1, h2 => by
    rw [delL_zero] at h; simp only [List.take_zero, List.nil_append, List.drop_zero]
    exact ⟨⟨h1, by simpa using h2⟩, h⟩
  | e :: s, [], d+1, x, _, h, _, _ => by rw [delL_succ] at h; exact h.elim
  | e :: s, z :: r, d+1, x, hd, h, h1, h2 => by
    rw [delL_succ] at h
    simp only [List.take_succ_cons, List.cons_append, List.drop_succ_cons]
    exact ⟨h.1, ix_ins s r d x (by simpa using hd) h.2 h1 (by simpa using h2)⟩
  | [], _, _, _, hd, _, _, _ => by simp at hd
/-- the view of the indices with a number in a dimension -/
def pickV (b : Int) (s t : List Int) (d i : Int) : VBool :=
  if dimB b s t d && (decide (-(s.getD d.toNat 0) ≤ i) && decide (i < s.getD d.toNat 0)) then
    (tidyB (b + (if i < 0 then i + s.getD d.toNat 0 else i) * t.getD d.toNat 0) (delL s d.toNat), delL s d.toNat, tidyT (delL s d.toNat) (delL t d.toNat), true) else noV
theorem pick_view {b : Int} {s t : List Int} {d : Nat} {j : Int} (h : viewB b s t = true) (hd : d < s.length) (h1 : 0 ≤ j) (h2 : j < s.getD d 0) :
    viewB (tidyB (b + j * t.getD d 0) (delL s d)) (delL s d) (tidyT (delL s d) (delL t d)) = true ∧
    offsL (tidyB (b + j * t.getD d 0) (delL s d)) (delL s d) (tidyT (delL s d) (delL t d)) = (if countL (delL s d) = 0 then [] else offC (b + j * t.getD d 0) (delL s d) (delL t d)) := by
  obtain ⟨g1, g2, g3, g4, g5⟩ := viewB_in h
  have hs := view_small h
  have hs' := del_small hs d hd
  have hc := shapeB_in g1
  have hl : (delL t d).length = (delL s d).length := by rw [delL_len _ _ (by omega), delL_len _ _ hd]; omega
  have ht := g4 (t.getD d 0) (getD_mem (by omega))
  have he := hs.2 (s.getD d 0) (getD_mem hd)
  have hp := del_prod s d hd
  have hcs := hs.count
  have hcs' := hs'.count
  by_cases hz : countL (delL s d) = 0
  · have e1 : tidyB (b + j * t.getD d 0) (delL s d) = 0 := by unfold tidyB; rw [if_pos hz]
    have e2 : tidyT (delL s d) (delL t d) = List.replicate (delL s d).length 0 := by unfold tidyT; rw [if_pos hz]
    have ho : ∀ (q : Int) (u : List Int), offsL q (delL s d) u = [] := fun q u => List.eq_nil_of_length_eq_zero (by rw [offs_count, hz]; rfl)
    rw [e1, e2, ho, if_pos hz]
    refine ⟨viewB_mk (shapeB_mk hs' (by omega)) (by simp) (by omega) (fun x hx => by rw [List.eq_of_mem_replicate hx]; omega) (fun x hx => by rw [ho] at hx; cases hx), rfl⟩
  · have e1 : tidyB (b + j * t.getD d 0) (delL s d) = b + j * t.getD d 0 := by unfold tidyB; rw [if_neg hz]
    have e2 : tidyT (delL s d) (delL t d) = delL t d := by unfold tidyT; rw [if_neg hz]
    have hall := hcs'.2.2.2 (by omega)
    have hle : countL (delL s d) ≤ countL s := by
      rw [hcs.1, hp, hcs'.1]
      have : prodL (delL s d) * 1 ≤ prodL (delL s d) * s.getD d 0 := Int.mul_le_mul_of_nonneg_left (by omega) (by rw [← hcs'.1]; omega)
      rw [Int.mul_comm (s.getD d 0)]; omega
    have hjb := mul_bd h1 (show j ≤ 60 by omega) (show (0 : Int) ≤ 60 by omega) ht.1 ht.2
    have hm : Mild (b + j * t.getD d 0) (delL t d) := ⟨by omega, fun x hx => by have := g4 x (delL_mem hx); omega⟩
    have ho : offsL (b + j * t.getD d 0) (delL s d) (delL t d) = offC (b + j * t.getD d 0) (delL s d) (delL t d) := offs_C hs' hm
    have hin : ∀ x ∈ offC (b + j * t.getD d 0) (delL s d) (delL t d), 0 ≤ x ∧ x ≤ 59 := by
      intro x hx
      unfold offC at hx
      obtain ⟨r, hr, rfl⟩ := List.mem_map.1 hx
      rw [mem_idxR] at hr
      have hrl := hr.len
      rw [delL_len s d hd] at hrl
      rw [← dot_del r t d b j (by omega) (by omega) (by omega)]
      apply g5
      rw [view_C h]
      unfold offC
      exact List.mem_map.2 ⟨_, (mem_idxR _ _).2 (ix_ins s r d j hd hr h1 h2), rfl⟩
    rw [e1, e2, ho, if_neg hz]
    have hb : 0 ≤ b + j * t.getD d 0 ∧ b + j * t.getD d 0 ≤ 60 := by
      have := hin _ (off_zero (t := delL t d) _ hall); omega
    exact ⟨viewB_mk (shapeB_mk hs' (by omega)) hl hb (fun x hx => g4 x (delL_mem hx)) (by rw [ho]; exact hin), rfl⟩

end Go.Proofs.Ytonnnjaooifpjaa

/- Walks: PickDim of the program. -/
namespace Go.Proofs.Ytonnnjaooifpjaa
open Go.RowKit
set_option linter.unusedVariables false
set_option maxRecDepth 100000


def PVX (w : World) (x : VBool) (e : Ending) (w' : World) : Prop := PVWB w x.1 x.2.1 x.2.2.1 x.2.2.2 e w'
theorem pvx_eq {w w0 : World} {x : VBool} {B : Int} {S T : List Int} {o : Bool} {f : Nat} {args : Array Value} (he : x = (B, S, T, o)) (h : Calls Try.prog f args w (PVX w0 x)) : Calls Try.prog f args w (PVWB w0 B S T o) := by subst he; exact h
theorem dim_in {b : Int} {s t : List Int} {d : Int} (h : dimB b s t d = true) : viewB b s t = true ∧ 0 ≤ d ∧ d < s.length := by
 unfold dimB inB at h
 simp only [Bool.and_eq_true, decide_eq_true_eq] at h
 exact ⟨h.1, by omega, by omega⟩
theorem pick_no0 {b : Int} {s t : List Int} {d i : Int} (h : dimB b s t d = false) : pickV b s t d i = noV := by unfold pickV; rw [h]; rfl
theorem pick_no1 {b : Int} {s t : List Int} {D : Nat} {i e : Int} (he : s.getD D 0 = e) (h : i < -e ∨ e ≤ i) : pickV b s t (D : Int) i = noV := by
 unfold pickV
 rw [Int.toNat_natCast, he, if_neg (by simp only [Bool.and_eq_true, decide_eq_true_eq]; omega)]
theorem pick_yes {b : Int} {s t : List Int} {D : Nat} {i e x j : Int} (h : dimB b s t (D : Int) = true) (he : s.getD D 0 = e) (hx : t.getD D 0 = x) (hj : j = if i < 0 then i + e else i) (h1 : 0 ≤ j) (h2 : j < e) :
  pickV b s t (D : Int) i = (tidyB (b + j * x) (delL s D), delL s D, tidyT (delL s D) (delL t D), true) := by
 unfold pickV
 rw [Int.toNat_natCast, he, hx, h, if_pos (by simp only [Bool.true_and, Bool.and_eq_true, decide_eq_true_eq]; split at hj <;> omega), ← hj]

set_option maxHeartbeats 3200000 in
theorem implPickDim_c (b1 : Int) (u1 v1 : Value) (s1 t1 : List Int) (d i : Int) (w : World) (l1 m1 : Nat) (h1 : Ints w l1 u1 s1) (k1 : Ints w m1 v1 t1) (hi : -1000000 ≤ i ∧ i ≤ 1000000) :
  Calls Try.prog 38 #[.agg #[.int .i64 b1, u1, v1], .int .i64 d, .int .i64 i] w (PVX w (pickV b1 s1 t1 d i)) := by
 obtain ⟨p0, c0, rfl⟩ := h1.form
 obtain ⟨p1, c1, rfl⟩ := k1.form
 go_enter Try.func38, Try.ntmps38
 go_wp2_with fail
 refine (hasDim_c b1 (.slice p0 s1.length c0) (.slice p1 t1.length c1) s1 t1 d _ _ _ (h1.ext qXt) (k1.ext qXt)).mono ?_
 rintro e w1 ⟨rfl, xw1⟩
 have Lw1 : Ext w w1 := Ext.trans qXt xw1
 have Xw1 : Ext w w1 := Lw1
 have b10 : w1.cell? ⟨w.heap.size, 0, none⟩ = some (.int .i64 b1) := xw1.cell qCl
 have b11 : w1.cell? ⟨w.heap.size, 1, none⟩ = some (.slice p0 s1.length c0) := xw1.cell qCl
 have b12 : w1.cell? ⟨w.heap.size, 2, none⟩ = some (.slice p1 t1.length c1) := xw1.cell qCl
 have b20 : w1.cell? ⟨w.heap.size + 1, 0, none⟩ = some (.int .i64 0) := xw1.cell qCl
 have b21 : w1.cell? ⟨w.heap.size + 1, 1, none⟩ = some (.slice none 0 0) := xw1.cell qCl
 have b22 : w1.cell? ⟨w.heap.size + 1, 2, none⟩ = some (.slice none 0 0) := xw1.cell qCl
 have f_b20 : w1.frozen? ⟨w.heap.size + 1, 0, none⟩ = false := xw1.frz (by simp <;> omega) qFz
 have f_b21 : w1.frozen? ⟨w.heap.size + 1, 1, none⟩ = false := xw1.frz (by simp <;> omega) qFz
 have f_b22 : w1.frozen? ⟨w.heap.size + 1, 2, none⟩ = false := xw1.frz (by simp <;> omega) qFz
 have z_b1 : w.heap.size < w1.heap.size := qB b10
 have z_b2 : w.heap.size + 1 < w1.heap.size := qB b20
 have s_w1 : w.heap.size ≤ w1.heap.size := Xw1.size
 clear xw1
 cases hB3 : dimB b1 s1 t1 d
 ·
  replace hB3 := Lib.hid hB3
  go_wp2_with fail
  generalize hW1 : (((w1.setCell ⟨w.heap.size + 1, 0, none⟩ (.int .i64 0)).setCell ⟨w.heap.size + 1, 1, none⟩ (.slice none 0 0)).setCell ⟨w.heap.size + 1, 2, none⟩ (.slice none 0 0)) = w2 at *
  have Kw2 : Chg (w.heap.size + 1) (w.heap.size + 1 + 1) w1 w2 := by subst hW1; exact qCh
  have Xw2 : Ext w w2 := by subst hW1; exact qXt
  replace b10 := Kw2.cell (by omega) b10
  replace b11 := Kw2.cell (by omega) b11
  replace b12 := Kw2.cell (by omega) b12
  replace b20 : w2.cell? ⟨w.heap.size + 1, 0, none⟩ = some (.int .i64 0) := by subst hW1; go_simp
  replace f_b20 : w2.frozen? ⟨w.heap.size + 1, 0, none⟩ = false := by subst hW1; go_simp
  replace b21 : w2.cell? ⟨w.heap.size + 1, 1, none⟩ = some (.slice none 0 0) := by subst hW1; go_simp
  replace f_b21 : w2.frozen? ⟨w.heap.size + 1, 1, none⟩ = false := by subst hW1; go_simp
  replace b22 : w2.cell? ⟨w.heap.size + 1, 2, none⟩ = some (.slice none 0 0) := by subst hW1; go_simp
  replace f_b22 : w2.frozen? ⟨w.heap.size + 1, 2, none⟩ = false := by subst hW1; go_simp
  clear Kw2
  have z_b1 : w.heap.size < w2.heap.size := qB b10
  have z_b2 : w.heap.size + 1 < w2.heap.size := qB b20
  have s_w2 : w.heap.size ≤ w2.heap.size := Xw2.size
  clear hW1
  refine bodyPost_ret (v := .tuple #[.agg #[.int .i64 0, .slice none 0 0, .slice none 0 0], .bool false]) (by simp only [results, Try.results38]; go_simp) rfl ?_
  rw [show pickV b1 s1 t1 d i = noV from pick_no0 hB3.out]
  exact PVWB.no (Xw2.trans qXt)
 ·
  replace hB3 := Lib.hid hB3
  obtain ⟨hvv, hd0, hd1⟩ := dim_in hB3.out
  obtain ⟨D, rfl⟩ : ∃ D : Nat, d = D := ⟨d.toNat, by omega⟩
  have hDN : D < s1.length := by omega
  obtain ⟨-, hts, -, ht60, -⟩ := viewB_in hvv
  have hs4 := view_small hvv
  have hs60 := Lib.hid hs4.2
  have hs4 := hs4.1
  have hDT : D < t1.length := by omega
  have ht4 : t1.length ≤ 4 := by omega
  have hdl4 : (delL s1 D).length ≤ 4 := by rw [delL_len _ _ hDN]; omega
  replace hts := Lib.hid hts
  replace ht60 := Lib.hid ht60
  replace hvv := Lib.hid hvv
  by_cases hc4 : (i : Int) < (0 : Int)
  ·
   have hN_e7 : D < s1.length := (by omega)
   have hI_e7 : (D : Int) < (s1.length : Int) := by omega
   obtain ⟨bl5, ol6, rfl, e70⟩ := h1.at D (by omega)
   have y_e7 : bl5 < w.heap.size := qB e70
   replace e70 := Xw1.cell e70
   obtain ⟨v8, hv8⟩ : ∃ v, s1.getD D 0 = v := ⟨_, rfl⟩
   rw [hv8] at e70
   replace hv8 := Lib.hid hv8
   have z_e7 : bl5 < w1.heap.size := qB e70
   have h60v8 := hs60.out _ (getD_mem hDN)
   rw [hv8.out] at h60v8
   by_cases hc9 : (i + v8 : Int) < (0 : Int)
   ·
    go_wp2_with fail
    generalize hW2 : (((w1.setCell ⟨w.heap.size + 1, 0, none⟩ (.int .i64 0)).setCell ⟨w.heap.size + 1, 1, none⟩ (.slice none 0 0)).setCell ⟨w.heap.size + 1, 2, none⟩ (.slice none 0 0)) = w2 at *
    have Kw2 : Chg (w.heap.size + 1) (w.heap.size + 1 + 1) w1 w2 := by subst hW2; exact qCh
    have Xw2 : Ext w w2 := by subst hW2; exact qXt
    replace b10 := Kw2.cell (by omega) b10
    replace b11 := Kw2.cell (by omega) b11
    replace b12 := Kw2.cell (by omega) b12
    replace b20 : w2.cell? ⟨w.heap.size + 1, 0, none⟩ = some (.int .i64 0) := by subst hW2; go_simp
    replace f_b20 : w2.frozen? ⟨w.heap.size + 1, 0, none⟩ = false := by subst hW2; go_simp
    replace b21 : w2.cell? ⟨w.heap.size + 1, 1, none⟩ = some (.slice none 0 0) := by subst hW2; go_simp
    replace f_b21 : w2.frozen? ⟨w.heap.size + 1, 1, none⟩ = false := by subst hW2; go_simp
    replace b22 : w2.cell? ⟨w.heap.size + 1, 2, none⟩ = some (.slice none 0 0) := by subst hW2; go_simp
    replace f_b22 : w2.frozen? ⟨w.heap.size + 1, 2, none⟩ = false := by subst hW2; go_simp
    replace e70 := Kw2.cell (by omega) e70
    clear Kw2
    have z_b1 : w.heap.size < w2.heap.size := qB b10
    have z_b2 : w.heap.size + 1 < w2.heap.size := qB b20
    have z_e7 : bl5 < w2.heap.size := qB e70
    have s_w2 : w.heap.size ≤ w2.heap.size := Xw2.size
    clear hW2
    refine bodyPost_ret (v := .tuple #[.agg #[.int .i64 0, .slice none 0 0, .slice none 0 0], .bool false]) (by simp only [results, Try.results38]; go_simp) rfl ?_
    rw [show pickV b1 s1 t1 (D : Int) i = noV from pick_no1 hv8.out (by omega)]
    exact PVWB.no (Xw2.trans qXt)
   ·
    have hq13 : ¬ ((v8 : Int) ≤ (i + v8 : Int)) := (by omega)
    go_wp2_with fail
    refine (withoutDim_c b1 (.slice (some ⟨bl5, ol6, none⟩) s1.length c0) (.slice p1 t1.length c1) s1 t1 D _ _ _ (h1.ext (Xw1.trans qXt)) (k1.ext (Xw1.trans qXt)) hDN hts.out hs4).mono ?_
    rintro e w2 ⟨fv14u, fv14v, rfl, i15u, i15v, xw2⟩
    have Lw2 : Ext w1 w2 := Ext.trans qXt xw2
    have Xw2 : Ext w w2 := Xw1.trans Lw2
    replace b10 := Lw2.cell b10
    replace b11 := Lw2.cell b11
    replace b12 := Lw2.cell b12
    replace b20 := Lw2.cell b20
    replace b21 := Lw2.cell b21
    replace b22 := Lw2.cell b22
    replace f_b20 := Lw2.frz z_b2 f_b20
    replace f_b21 := Lw2.frz z_b2 f_b21
    replace f_b22 := Lw2.frz z_b2 f_b22
    replace e70 := Lw2.cell e70
    have z_b1 : w.heap.size < w2.heap.size := qB b10
    have z_b2 : w.heap.size + 1 < w2.heap.size := qB b20
    have z_e7 : bl5 < w2.heap.size := qB e70
    have s_w2 : w.heap.size ≤ w2.heap.size := Xw2.size
    clear xw2
    obtain ⟨afv14u, cfv14u, rfl⟩ := i15u.form
    obtain ⟨afv14v, cfv14v, rfl⟩ := i15v.form
    have Q16_b10 := Lib.hid b10
    have Q16_b11 := Lib.hid b11
    have Q16_b12 := Lib.hid b12
    have Q16_zb1 := z_b1
    have Q16_b20 := Lib.hid b20
    have Q16_f_b20 := Lib.hid f_b20
    have Q16_b21 := Lib.hid b21
    have Q16_f_b21 := Lib.hid f_b21
    have Q16_b22 := Lib.hid b22
    have Q16_f_b22 := Lib.hid f_b22
    have Q16_zb2 := z_b2
    have Q16_e70 := Lib.hid e70
    have Q16_ze7 := z_e7
    have Q16_i15u := Lib.hid i15u
    have Q16_i15v := Lib.hid i15v
    have BL17 : Ext w2 w2 := Ext.refl _
    go_wp2_with fail
    generalize hW3 : w2.alloc (.cells #[.int .i64 b1, .slice afv14u ((delL s1 D).length) cfv14u, .slice afv14v ((delL t1 D).length) cfv14v] 25) = w3 at *
    have Lw3 : Ext w2 w3 := by subst hW3; exact qXt
    have Xw3 : Ext w w3 := Xw2.trans Lw3
    replace b10 := Lw3.cell b10
    replace b11 := Lw3.cell b11
    replace b12 := Lw3.cell b12
    replace b20 := Lw3.cell b20
    replace b21 := Lw3.cell b21
    replace b22 := Lw3.cell b22
    replace f_b20 := Lw3.frz z_b2 f_b20
    replace f_b21 := Lw3.frz z_b2 f_b21
    replace f_b22 := Lw3.frz z_b2 f_b22
    replace e70 := Lw3.cell e70
    have b180 : w3.cell? ⟨w2.heap.size, 0, none⟩ = some (.int .i64 b1) := by subst hW3; exact qCl
    have b181 : w3.cell? ⟨w2.heap.size, 1, none⟩ = some (.slice afv14u ((delL s1 D).length) cfv14u) := by subst hW3; exact qCl
    have b182 : w3.cell? ⟨w2.heap.size, 2, none⟩ = some (.slice afv14v ((delL t1 D).length) cfv14v) := by subst hW3; exact qCl
    have f_b180 : w3.frozen? ⟨w2.heap.size, 0, none⟩ = false := by subst hW3; exact qFz
    have f_b181 : w3.frozen? ⟨w2.heap.size, 1, none⟩ = false := by subst hW3; exact qFz
    have f_b182 : w3.frozen? ⟨w2.heap.size, 2, none⟩ = false := by subst hW3; exact qFz
    have z_b1 : w.heap.size < w3.heap.size := qB b10
    have z_b2 : w.heap.size + 1 < w3.heap.size := qB b20
    have z_e7 : bl5 < w3.heap.size := qB e70
    have z_b18 : w2.heap.size < w3.heap.size := qB b180
    replace i15u := i15u.ext Lw3
    replace i15v := i15v.ext Lw3
    have s_w3 : w.heap.size ≤ w3.heap.size := Xw3.size
    have BL17_w3 : Ext w2 w3 := BL17.trans Lw3
    clear hW3
    have hN_e21 : D < t1.length := (by omega)
    have hI_e21 : (D : Int) < (t1.length : Int) := by omega
    obtain ⟨bl19, ol20, rfl, e210⟩ := k1.at D (by omega)
    have y_e21 : bl19 < w.heap.size := qB e210
    replace e210 := Xw3.cell e210
    obtain ⟨v22, hv22⟩ : ∃ v, t1.getD D 0 = v := ⟨_, rfl⟩
    rw [hv22] at e210
    replace hv22 := Lib.hid hv22
    have z_e21 : bl19 < w3.heap.size := qB e210
    have h60v22 := ht60.out _ (getD_mem hDT)
    rw [hv22.out] at h60v22
    have hjb := mul_bd (x := (i + v8)) (t := v22) (by omega) (by omega) (show (0 : Int) ≤ 60 by omega) h60v22.1 h60v22.2
    have hb60 := (viewB_in hvv.out).2.2.1
    refine wp_region_tail (S := fun w' => w'.cell? ⟨w.heap.size, 0, none⟩ = some (.int .i64 b1) ∧ w'.cell? ⟨w.heap.size, 1, none⟩ = some (.slice (some ⟨bl5, ol6, none⟩) s1.length c0) ∧ w'.cell? ⟨w.heap.size, 2, none⟩ = some (.slice (some ⟨bl19, ol20, none⟩) t1.length c1) ∧ w'.cell? ⟨w.heap.size + 1, 0, none⟩ = some (.int .i64 0) ∧ w'.cell? ⟨w.heap.size + 1, 1, none⟩ = some (.slice none 0 0) ∧ w'.cell? ⟨w.heap.size + 1, 2, none⟩ = some (.slice none 0 0) ∧ w'.cell? ⟨bl5, ol6 + D, none⟩ = some (.int .i64 v8) ∧ w'.cell? ⟨w2.heap.size, 0, none⟩ = some (.int .i64 b1) ∧ w'.cell? ⟨w2.heap.size, 1, none⟩ = some (.slice afv14u ((delL s1 D).length) cfv14u) ∧ w'.cell? ⟨w2.heap.size, 2, none⟩ = some (.slice afv14v ((delL t1 D).length) cfv14v) ∧ w'.cell? ⟨bl19, ol20 + D, none⟩ = some (.int .i64 v22)) (fun i => decide (11 ≤ i)) qKr ⟨b10, b11, b12, b20, b21, b22, e70, b180, b181, b182, e210⟩ (fun hHeld => ?_)
    refine qTk (v := ?_) 0 rfl (.inl ⟨by rfl, ?_⟩) ?_
    rotate_left
    ·
     (intro w hSw; (try dsimp only at hSw); go_simp; try with_reducible rfl)
    try simp only [Act.put, qa, qb, qc, qD, qE, qF]
    refine qTk (v := ?_) 1 rfl (.inl ⟨by rfl, ?_⟩) ?_
    rotate_left
    ·
     (intro w hSw; (try dsimp only at hSw); go_simp; try with_reducible rfl)
    try simp only [Act.put, qa, qb, qc, qD, qE, qF]
    refine qTk (v := ?_) 2 rfl (.inl ⟨by rfl, ?_⟩) ?_
    rotate_left
    ·
     (intro w hSw; (try dsimp only at hSw); go_simp; try with_reducible rfl)
    try simp only [Act.put, qa, qb, qc, qD, qE, qF]
    refine qTk (v := ?_) 3 rfl (.inl ⟨by rfl, ?_⟩) ?_
    rotate_left
    ·
     (intro w hSw; (try dsimp only at hSw); go_simp; try with_reducible rfl)
    try simp only [Act.put, qa, qb, qc, qD, qE, qF]
    refine qTk (v := ?_) 4 rfl (.inl ⟨by rfl, ?_⟩) ?_
    rotate_left
    ·
     (intro w hSw; (try dsimp only at hSw); go_simp; try with_reducible rfl)
    try simp only [Act.put, qa, qb, qc, qD, qE, qF]
    refine qTk (v := ?_) 5 rfl (.inl ⟨by rfl, ?_⟩) ?_
    rotate_left
    ·
     (intro w hSw; (try dsimp only at hSw); go_simp; try with_reducible rfl)
    try simp only [Act.put, qa, qb, qc, qD, qE, qF]
    refine qTk (v := ?_) 6 rfl (.inl ⟨by rfl, ?_⟩) ?_
    rotate_left
    ·
     (intro w hSw; (try dsimp only at hSw); go_simp; try with_reducible rfl)
    try simp only [Act.put, qa, qb, qc, qD, qE, qF]
    refine qTk (v := ?_) 7 rfl (.inl ⟨by rfl, ?_⟩) ?_
    rotate_left
    ·
     (intro w hSw; (try dsimp only at hSw); go_simp; try with_reducible rfl)
    try simp only [Act.put, qa, qb, qc, qD, qE, qF]
    have hw26 : IntKind.i64.wrap ((i + v8) * v22) = (i + v8) * v22 := IntWalk.i64_in _ (by omega)
    refine qTk (v := ?_) 8 rfl (.inl ⟨by rfl, ?_⟩) ?_
    rotate_left
    ·
     (intro w hSw; (try dsimp only at hSw); go_simp; try with_reducible rfl)
    try simp only [Act.put, qa, qb, qc, qD, qE, qF]
    have hw27 : IntKind.i64.wrap (b1 + ((i + v8) * v22)) = b1 + ((i + v8) * v22) := IntWalk.i64_in _ (by omega)
    refine qTk (v := ?_) 9 rfl (.inl ⟨by rfl, ?_⟩) ?_
    rotate_left
    ·
     (intro w hSw; (try dsimp only at hSw); go_simp; try with_reducible rfl)
    try simp only [Act.put, qa, qb, qc, qD, qE, qF]
    refine qTk (v := ?_) 10 rfl (.inl ⟨by rfl, ?_⟩) ?_
    rotate_left
    ·
     (intro w hSw; (try dsimp only at hSw); go_simp; try with_reducible rfl)
    try simp only [Act.put, qa, qb, qc, qD, qE, qF]
    refine wpTail_last (i := 11) qKr rfl rfl (fun K hK => ?_)
    try simp only [Act.put, qa, qb, qc, qD, qE, qF]
    go_simp
    refine hK.out _ _ ?_
    clear hK K
    try simp only [Act.put, qa, qb, qc, qD, qE, qF]
    refine wpTail_done qKr ?_ _
    clear hHeld hw26 hw27
    generalize hW4 : ((w3.setCell ⟨w2.heap.size, 0, none⟩ (.int .i64 (b1 + ((i + v8) * v22)))).drew) = w4 at *
    have Kw4 : Chg (w2.heap.size) (w2.heap.size + 1) w3 w4 := by subst hW4; exact qCh
    have Xw4 : Ext w w4 := by subst hW4; exact qXt
    have BL17_w4 : Ext w2 w4 := by subst hW4; exact qXt
    replace b10 := BL17_w4.cell Q16_b10.out
    replace b11 := BL17_w4.cell Q16_b11.out
    replace b12 := BL17_w4.cell Q16_b12.out
    replace b20 := BL17_w4.cell Q16_b20.out
    replace f_b20 := BL17_w4.frz Q16_zb2 Q16_f_b20.out
    replace b21 := BL17_w4.cell Q16_b21.out
    replace f_b21 := BL17_w4.frz Q16_zb2 Q16_f_b21.out
    replace b22 := BL17_w4.cell Q16_b22.out
    replace f_b22 := BL17_w4.frz Q16_zb2 Q16_f_b22.out
    replace e70 := BL17_w4.cell Q16_e70.out
    replace b180 : w4.cell? ⟨w2.heap.size, 0, none⟩ = some (.int .i64 (b1 + ((i + v8) * v22))) := by subst hW4; go_simp
    replace f_b180 : w4.frozen? ⟨w2.heap.size, 0, none⟩ = false := by subst hW4; go_simp
    replace b181 : w4.cell? ⟨w2.heap.size, 1, none⟩ = some (.slice afv14u ((delL s1 D).length) cfv14u) := by subst hW4; go_simp
    replace f_b181 : w4.frozen? ⟨w2.heap.size, 1, none⟩ = false := by subst hW4; go_simp
    replace b182 : w4.cell? ⟨w2.heap.size, 2, none⟩ = some (.slice afv14v ((delL t1 D).length) cfv14v) := by subst hW4; go_simp
    replace f_b182 : w4.frozen? ⟨w2.heap.size, 2, none⟩ = false := by subst hW4; go_simp
    replace e210 := Kw4.cell (by omega) e210
    replace i15u := (Q16_i15u.out).ext BL17_w4
    replace i15v := (Q16_i15v.out).ext BL17_w4
    clear Kw4
    have z_b1 : w.heap.size < w4.heap.size := qB b10
    have z_b2 : w.heap.size + 1 < w4.heap.size := qB b20
    have z_e7 : bl5 < w4.heap.size := qB e70
    have z_b18 : w2.heap.size < w4.heap.size := qB b180
    have z_e21 : bl19 < w4.heap.size := qB e210
    have s_w4 : w.heap.size ≤ w4.heap.size := Xw4.size
    clear hW4
    go_wp2_with fail
    by_cases hcl28 : countL (delL s1 D) = 0
    ·
     refine (cleared_0 (b1 + ((i + v8) * v22)) _ _ (delL s1 D) _ _ (i15u.ext qXt) hcl28).mono ?_
     rintro e w5 ⟨svO29, rfl, O29, xw5⟩
     have Lw5 : Ext w4 w5 := Ext.trans qXt xw5
     have Xw5 : Ext w w5 := Xw4.trans Lw5
     replace b10 := Lw5.cell b10
     replace b11 := Lw5.cell b11
     replace b12 := Lw5.cell b12
     replace b20 := Lw5.cell b20
     replace b21 := Lw5.cell b21
     replace b22 := Lw5.cell b22
     replace f_b20 := Lw5.frz z_b2 f_b20
     replace f_b21 := Lw5.frz z_b2 f_b21
     replace f_b22 := Lw5.frz z_b2 f_b22
     replace e70 := Lw5.cell e70
     replace b180 := Lw5.cell b180
     replace b181 := Lw5.cell b181
     replace b182 := Lw5.cell b182
     replace f_b180 := Lw5.frz z_b18 f_b180
     replace f_b181 := Lw5.frz z_b18 f_b181
     replace f_b182 := Lw5.frz z_b18 f_b182
     replace e210 := Lw5.cell e210
     have z_b1 : w.heap.size < w5.heap.size := qB b10
     have z_b2 : w.heap.size + 1 < w5.heap.size := qB b20
     have z_e7 : bl5 < w5.heap.size := qB e70
     have z_b18 : w2.heap.size < w5.heap.size := qB b180
     have z_e21 : bl19 < w5.heap.size := qB e210
     replace i15u := i15u.ext Lw5
     replace i15v := i15v.ext Lw5
     have s_w5 : w.heap.size ≤ w5.heap.size := Xw5.size
     have BL17_w5 : Ext w2 w5 := BL17_w4.trans Lw5
     clear xw5
     obtain ⟨aa30, cc31, rfl⟩ := (O29.ints (by simp; omega)).form
     rw [List.length_replicate] at O29 ⊢
     go_wp2_with fail
     generalize hW5 : (((w5.setCell ⟨w.heap.size + 1, 0, none⟩ (.int .i64 0)).setCell ⟨w.heap.size + 1, 1, none⟩ (.slice afv14u ((delL s1 D).length) cfv14u)).setCell ⟨w.heap.size + 1, 2, none⟩ (.slice aa30 ((delL s1 D).length) cc31)) = w6 at *
     have Kw6 : Chg (w.heap.size + 1) (w.heap.size + 1 + 1) w5 w6 := by subst hW5; exact qCh
     have Xw6 : Ext w w6 := by subst hW5; exact qXt
     replace b10 := Kw6.cell (by omega) b10
     replace b11 := Kw6.cell (by omega) b11
     replace b12 := Kw6.cell (by omega) b12
     replace b20 : w6.cell? ⟨w.heap.size + 1, 0, none⟩ = some (.int .i64 0) := by subst hW5; go_simp
     replace f_b20 : w6.frozen? ⟨w.heap.size + 1, 0, none⟩ = false := by subst hW5; go_simp
     replace b21 : w6.cell? ⟨w.heap.size + 1, 1, none⟩ = some (.slice afv14u ((delL s1 D).length) cfv14u) := by subst hW5; go_simp
     replace f_b21 : w6.frozen? ⟨w.heap.size + 1, 1, none⟩ = false := by subst hW5; go_simp
     replace b22 : w6.cell? ⟨w.heap.size + 1, 2, none⟩ = some (.slice aa30 ((delL s1 D).length) cc31) := by subst hW5; go_simp
     replace f_b22 : w6.frozen? ⟨w.heap.size + 1, 2, none⟩ = false := by subst hW5; go_simp
     replace e70 := Kw6.cell (by omega) e70
     replace b180 := Kw6.cell (by omega) b180
     replace f_b180 := Kw6.frzO (by omega) z_b18 f_b180
     replace b181 := Kw6.cell (by omega) b181
     replace f_b181 := Kw6.frzO (by omega) z_b18 f_b181
     replace b182 := Kw6.cell (by omega) b182
     replace f_b182 := Kw6.frzO (by omega) z_b18 f_b182
     replace e210 := Kw6.cell (by omega) e210
     replace i15u := i15u.chg Kw6 (by omega)
     replace i15v := i15v.chg Kw6 (by omega)
     replace O29 := O29.chg Kw6 (by omega)
     clear Kw6
     have z_b1 : w.heap.size < w6.heap.size := qB b10
     have z_b2 : w.heap.size + 1 < w6.heap.size := qB b20
     have z_e7 : bl5 < w6.heap.size := qB e70
     have z_b18 : w2.heap.size < w6.heap.size := qB b180
     have z_e21 : bl19 < w6.heap.size := qB e210
     have s_w6 : w.heap.size ≤ w6.heap.size := Xw6.size
     clear hW5
     refine bodyPost_ret (v := .tuple #[.agg #[.int .i64 0, .slice afv14u ((delL s1 D).length) cfv14u, .slice aa30 ((delL s1 D).length) cc31], .bool true]) (by simp only [results, Try.results38]; go_simp) rfl ?_
     rw [pick_yes (j := (i + v8)) hB3.out hv8.out hv22.out (by split <;> omega) (by omega) (by omega)]
     refine ⟨.slice afv14u ((delL s1 D).length) cfv14u, .slice aa30 ((delL s1 D).length) cc31, ?_, i15u.lower (by omega), ?_, Xw6⟩
     ·
      rw [show tidyB (b1 + (i + v8) * v22) (delL s1 D) = 0 by unfold tidyB; rw [if_pos hcl28]]
     ·
      rw [show tidyT (delL s1 D) (delL t1 D) = List.replicate (delL s1 D).length 0 by unfold tidyT; rw [if_pos hcl28]]
      exact (O29.ints (by simp; omega)).lower (by omega)
    ·
     refine (cleared_1 (b1 + ((i + v8) * v22)) _ _ (delL s1 D) (delL t1 D) _ _ _ (i15u.ext qXt) (i15v.ext qXt) hcl28).mono ?_
     rintro e w5 ⟨rfl, xw5⟩
     have Lw5 : Ext w4 w5 := Ext.trans qXt xw5
     have Xw5 : Ext w w5 := Xw4.trans Lw5
     replace b10 := Lw5.cell b10
     replace b11 := Lw5.cell b11
     replace b12 := Lw5.cell b12
     replace b20 := Lw5.cell b20
     replace b21 := Lw5.cell b21
     replace b22 := Lw5.cell b22
     replace f_b20 := Lw5.frz z_b2 f_b20
     replace f_b21 := Lw5.frz z_b2 f_b21
     replace f_b22 := Lw5.frz z_b2 f_b22
     replace e70 := Lw5.cell e70
     replace b180 := Lw5.cell b180
     replace b181 := Lw5.cell b181
     replace b182 := Lw5.cell b182
     replace f_b180 := Lw5.frz z_b18 f_b180
     replace f_b181 := Lw5.frz z_b18 f_b181
     replace f_b182 := Lw5.frz z_b18 f_b182
     replace e210 := Lw5.cell e210
     have z_b1 : w.heap.size < w5.heap.size := qB b10
     have z_b2 : w.heap.size + 1 < w5.heap.size := qB b20
     have z_e7 : bl5 < w5.heap.size := qB e70
     have z_b18 : w2.heap.size < w5.heap.size := qB b180
     have z_e21 : bl19 < w5.heap.size := qB e210
     replace i15u := i15u.ext Lw5
     replace i15v := i15v.ext Lw5
     have s_w5 : w.heap.size ≤ w5.heap.size := Xw5.size
     have BL17_w5 : Ext w2 w5 := BL17_w4.trans Lw5
     clear xw5
     go_wp2_with fail
     generalize hW6 : (((w5.setCell ⟨w.heap.size + 1, 0, none⟩ (.int .i64 (b1 + ((i + v8) * v22)))).setCell ⟨w.heap.size + 1, 1, none⟩ (.slice afv14u ((delL s1 D).length) cfv14u)).setCell ⟨w.heap.size + 1, 2, none⟩ (.slice afv14v ((delL t1 D).length) cfv14v)) = w6 at *
     have Kw6 : Chg (w.heap.size + 1) (w.heap.size + 1 + 1) w5 w6 := by subst hW6; exact qCh
     have Xw6 : Ext w w6 := by subst hW6; exact qXt
     replace b10 := Kw6.cell (by omega) b10
     replace b11 := Kw6.cell (by omega) b11
     replace b12 := Kw6.cell (by omega) b12
     replace b20 : w6.cell? ⟨w.heap.size + 1, 0, none⟩ = some (.int .i64 (b1 + ((i + v8) * v22))) := by subst hW6; go_simp
     replace f_b20 : w6.frozen? ⟨w.heap.size + 1, 0, none⟩ = false := by subst hW6; go_simp
     replace b21 : w6.cell? ⟨w.heap.size + 1, 1, none⟩ = some (.slice afv14u ((delL s1 D).length) cfv14u) := by subst hW6; go_simp
     replace f_b21 : w6.frozen? ⟨w.heap.size + 1, 1, none⟩ = false := by subst hW6; go_simp
     replace b22 : w6.cell? ⟨w.heap.size + 1, 2, none⟩ = some (.slice afv14v ((delL t1 D).length) cfv14v) := by subst hW6; go_simp
     replace f_b22 : w6.frozen? ⟨w.heap.size + 1, 2, none⟩ = false := by subst hW6; go_simp
     replace e70 := Kw6.cell (by omega) e70
     replace b180 := Kw6.cell (by omega) b180
     replace f_b180 := Kw6.frzO (by omega) z_b18 f_b180
     replace b181 := Kw6.cell (by omega) b181
     replace f_b181 := Kw6.frzO (by omega) z_b18 f_b181
     replace b182 := Kw6.cell (by omega) b182
     replace f_b182 := Kw6.frzO (by omega) z_b18 f_b182
     replace e210 := Kw6.cell (by omega) e210
     replace i15u := i15u.chg Kw6 (by omega)
     replace i15v := i15v.chg Kw6 (by omega)
     clear Kw6
     have z_b1 : w.heap.size < w6.heap.size := qB b10
     have z_b2 : w.heap.size + 1 < w6.heap.size := qB b20
     have z_e7 : bl5 < w6.heap.size := qB e70
     have z_b18 : w2.heap.size < w6.heap.size := qB b180
     have z_e21 : bl19 < w6.heap.size := qB e210
     have s_w6 : w.heap.size ≤ w6.heap.size := Xw6.size
     clear hW6
     refine bodyPost_ret (v := .tuple #[.agg #[.int .i64 (b1 + ((i + v8) * v22)), .slice afv14u ((delL s1 D).length) cfv14u, .slice afv14v ((delL t1 D).length) cfv14v], .bool true]) (by simp only [results, Try.results38]; go_simp) rfl ?_
     rw [pick_yes (j := (i + v8)) hB3.out hv8.out hv22.out (by split <;> omega) (by omega) (by omega)]
     refine ⟨.slice afv14u ((delL s1 D).length) cfv14u, .slice afv14v ((delL t1 D).length) cfv14v, ?_, i15u.lower (by omega), ?_, Xw6⟩
     ·
      rw [show tidyB (b1 + (i + v8) * v22) (delL s1 D) = b1 + (i + v8) * v22 by unfold tidyB; rw [if_neg hcl28]]
     ·
      rw [show tidyT (delL s1 D) (delL t1 D) = delL t1 D by unfold tidyT; rw [if_neg hcl28]]
      exact i15v.lower (by omega)
  ·
   have hN_e34 : D < s1.length := (by omega)
   have hI_e34 : (D : Int) < (s1.length : Int) := by omega
   obtain ⟨bl32, ol33, rfl, e340⟩ := h1.at D (by omega)
   have y_e34 : bl32 < w.heap.size := qB e340
   replace e340 := Xw1.cell e340
   obtain ⟨v35, hv35⟩ : ∃ v, s1.getD D 0 = v := ⟨_, rfl⟩
   rw [hv35] at e340
   replace hv35 := Lib.hid hv35
   have z_e34 : bl32 < w1.heap.size := qB e340
   have h60v35 := hs60.out _ (getD_mem hDN)
   rw [hv35.out] at h60v35
   by_cases hc36 : (v35 : Int) ≤ (i : Int)
   ·
    go_wp2_with fail
    generalize hW7 : (((w1.setCell ⟨w.heap.size + 1, 0, none⟩ (.int .i64 0)).setCell ⟨w.heap.size + 1, 1, none⟩ (.slice none 0 0)).setCell ⟨w.heap.size + 1, 2, none⟩ (.slice none 0 0)) = w2 at *
    have Kw2 : Chg (w.heap.size + 1) (w.heap.size + 1 + 1) w1 w2 := by subst hW7; exact qCh
    have Xw2 : Ext w w2 := by subst hW7; exact qXt
    replace b10 := Kw2.cell (by omega) b10
    replace b11 := Kw2.cell (by omega) b11
    replace b12 := Kw2.cell (by omega) b12
    replace b20 : w2.cell? ⟨w.heap.size + 1, 0, none⟩ = some (.int .i64 0) := by subst hW7; go_simp
    replace f_b20 : w2.frozen? ⟨w.heap.size + 1, 0, none⟩ = false := by subst hW7; go_simp
    replace b21 : w2.cell? ⟨w.heap.size + 1, 1, none⟩ = some (.slice none 0 0) := by subst hW7; go_simp
    replace f_b21 : w2.frozen? ⟨w.heap.size + 1, 1, none⟩ = false := by subst hW7; go_simp
    replace b22 : w2.cell? ⟨w.heap.size + 1, 2, none⟩ = some (.slice none 0 0) := by subst hW7; go_simp
    replace f_b22 : w2.frozen? ⟨w.heap.size + 1, 2, none⟩ = false := by subst hW7; go_simp
    replace e340 := Kw2.cell (by omega) e340
    clear Kw2
    have z_b1 : w.heap.size < w2.heap.size := qB b10
    have z_b2 : w.heap.size + 1 < w2.heap.size := qB b20
    have z_e34 : bl32 < w2.heap.size := qB e340
    have s_w2 : w.heap.size ≤ w2.heap.size := Xw2.size
    clear hW7
    refine bodyPost_ret (v := .tuple #[.agg #[.int .i64 0, .slice none 0 0, .slice none 0 0], .bool false]) (by simp only [results, Try.results38]; go_simp) rfl ?_
    rw [show pickV b1 s1 t1 (D : Int) i = noV from pick_no1 hv35.out (by omega)]
    exact PVWB.no (Xw2.trans qXt)
   ·
    go_wp2_with fail
    refine (withoutDim_c b1 (.slice (some ⟨bl32, ol33, none⟩) s1.length c0) (.slice p1 t1.length c1) s1 t1 D _ _ _ (h1.ext (Xw1.trans qXt)) (k1.ext (Xw1.trans qXt)) hDN hts.out hs4).mono ?_
    rintro e w2 ⟨fv37u, fv37v, rfl, i38u, i38v, xw2⟩
    have Lw2 : Ext w1 w2 := Ext.trans qXt xw2
    have Xw2 : Ext w w2 := Xw1.trans Lw2
    replace b10 := Lw2.cell b10
    replace b11 := Lw2.cell b11
    replace b12 := Lw2.cell b12
    replace b20 := Lw2.cell b20
    replace b21 := Lw2.cell b21
    replace b22 := Lw2.cell b22
    replace f_b20 := Lw2.frz z_b2 f_b20
    replace f_b21 := Lw2.frz z_b2 f_b21
    replace f_b22 := Lw2.frz z_b2 f_b22
    replace e340 := Lw2.cell e340
    have z_b1 : w.heap.size < w2.heap.size := qB b10
    have z_b2 : w.heap.size + 1 < w2.heap.size := qB b20
    have z_e34 : bl32 < w2.heap.size := qB e340
    have s_w2 : w.heap.size ≤ w2.heap.size := Xw2.size
    clear xw2
    obtain ⟨afv37u, cfv37u, rfl⟩ := i38u.form
    obtain ⟨afv37v, cfv37v, rfl⟩ := i38v.form
    have Q39_b10 := Lib.hid b10
    have Q39_b11 := Lib.hid b11
    have Q39_b12 := Lib.hid b12
    have Q39_zb1 := z_b1
    have Q39_b20 := Lib.hid b20
    have Q39_f_b20 := Lib.hid f_b20
    have Q39_b21 := Lib.hid b21
    have Q39_f_b21 := Lib.hid f_b21
    have Q39_b22 := Lib.hid b22
    have Q39_f_b22 := Lib.hid f_b22
    have Q39_zb2 := z_b2
    have Q39_e340 := Lib.hid e340
    have Q39_ze34 := z_e34
    have Q39_i38u := Lib.hid i38u
    have Q39_i38v := Lib.hid i38v
    have BL40 : Ext w2 w2 := Ext.refl _
    go_wp2_with fail
    generalize hW8 : w2.alloc (.cells #[.int .i64 b1, .slice afv37u ((delL s1 D).length) cfv37u, .slice afv37v ((delL t1 D).length) cfv37v] 25) = w3 at *
    have Lw3 : Ext w2 w3 := by subst hW8; exact qXt
    have Xw3 : Ext w w3 := Xw2.trans Lw3
    replace b10 := Lw3.cell b10
    replace b11 := Lw3.cell b11
    replace b12 := Lw3.cell b12
    replace b20 := Lw3.cell b20
    replace b21 := Lw3.cell b21
    replace b22 := Lw3.cell b22
    replace f_b20 := Lw3.frz z_b2 f_b20
    replace f_b21 := Lw3.frz z_b2 f_b21
    replace f_b22 := Lw3.frz z_b2 f_b22
    replace e340 := Lw3.cell e340
    have b410 : w3.cell? ⟨w2.heap.size, 0, none⟩ = some (.int .i64 b1) := by subst hW8; exact qCl
    have b411 : w3.cell? ⟨w2.heap.size, 1, none⟩ = some (.slice afv37u ((delL s1 D).length) cfv37u) := by subst hW8; exact qCl
    have b412 : w3.cell? ⟨w2.heap.size, 2, none⟩ = some (.slice afv37v ((delL t1 D).length) cfv37v) := by subst hW8; exact qCl
    have f_b410 : w3.frozen? ⟨w2.heap.size, 0, none⟩ = false := by subst hW8; exact qFz
    have f_b411 : w3.frozen? ⟨w2.heap.size, 1, none⟩ = false := by subst hW8; exact qFz
    have f_b412 : w3.frozen? ⟨w2.heap.size, 2, none⟩ = false := by subst hW8; exact qFz
    have z_b1 : w.heap.size < w3.heap.size := qB b10
    have z_b2 : w.heap.size + 1 < w3.heap.size := qB b20
    have z_e34 : bl32 < w3.heap.size := qB e340
    have z_b41 : w2.heap.size < w3.heap.size := qB b410
    replace i38u := i38u.ext Lw3
    replace i38v := i38v.ext Lw3
    have s_w3 : w.heap.size ≤ w3.heap.size := Xw3.size
    have BL40_w3 : Ext w2 w3 := BL40.trans Lw3
    clear hW8
    have hN_e44 : D < t1.length := (by omega)
    have hI_e44 : (D : Int) < (t1.length : Int) := by omega
    obtain ⟨bl42, ol43, rfl, e440⟩ := k1.at D (by omega)
    have y_e44 : bl42 < w.heap.size := qB e440
    replace e440 := Xw3.cell e440
    obtain ⟨v45, hv45⟩ : ∃ v, t1.getD D 0 = v := ⟨_, rfl⟩
    rw [hv45] at e440
    replace hv45 := Lib.hid hv45
    have z_e44 : bl42 < w3.heap.size := qB e440
    have h60v45 := ht60.out _ (getD_mem hDT)
    rw [hv45.out] at h60v45
    have hjb := mul_bd (x := i) (t := v45) (by omega) (by omega) (show (0 : Int) ≤ 60 by omega) h60v45.1 h60v45.2
    have hb60 := (viewB_in hvv.out).2.2.1
    refine wp_region_tail (S := fun w' => w'.cell? ⟨w.heap.size, 0, none⟩ = some (.int .i64 b1) ∧ w'.cell? ⟨w.heap.size, 1, none⟩ = some (.slice (some ⟨bl32, ol33, none⟩) s1.length c0) ∧ w'.cell? ⟨w.heap.size, 2, none⟩ = some (.slice (some ⟨bl42, ol43, none⟩) t1.length c1) ∧ w'.cell? ⟨w.heap.size + 1, 0, none⟩ = some (.int .i64 0) ∧ w'.cell? ⟨w.heap.size + 1, 1, none⟩ = some (.slice none 0 0) ∧ w'.cell? ⟨w.heap.size + 1, 2, none⟩ = some (.slice none 0 0) ∧ w'.cell? ⟨bl32, ol33 + D, none⟩ = some (.int .i64 v35) ∧ w'.cell? ⟨w2.heap.size, 0, none⟩ = some (.int .i64 b1) ∧ w'.cell? ⟨w2.heap.size, 1, none⟩ = some (.slice afv37u ((delL s1 D).length) cfv37u) ∧ w'.cell? ⟨w2.heap.size, 2, none⟩ = some (.slice afv37v ((delL t1 D).length) cfv37v) ∧ w'.cell? ⟨bl42, ol43 + D, none⟩ = some (.int .i64 v45)) (fun i => decide (11 ≤ i)) qKr ⟨b10, b11, b12, b20, b21, b22, e340, b410, b411, b412, e440⟩ (fun hHeld => ?_)
    refine qTk (v := ?_) 0 rfl (.inl ⟨by rfl, ?_⟩) ?_
    rotate_left
    ·
     (intro w hSw; (try dsimp only at hSw); go_simp; try with_reducible rfl)
    try simp only [Act.put, qa, qb, qc, qD, qE, qF]
    refine qTk (v := ?_) 1 rfl (.inl ⟨by rfl, ?_⟩) ?_
    rotate_left
    ·
     (intro w hSw; (try dsimp only at hSw); go_simp; try with_reducible rfl)
    try simp only [Act.put, qa, qb, qc, qD, qE, qF]
    refine qTk (v := ?_) 2 rfl (.inl ⟨by rfl, ?_⟩) ?_
    rotate_left
    ·
     (intro w hSw; (try dsimp only at hSw); go_simp; try with_reducible rfl)
    try simp only [Act.put, qa, qb, qc, qD, qE, qF]
    refine qTk (v := ?_) 3 rfl (.inl ⟨by rfl, ?_⟩) ?_
    rotate_left
    ·
     (intro w hSw; (try dsimp only at hSw); go_simp; try with_reducible rfl)
    try simp only [Act.put, qa, qb, qc, qD, qE, qF]
    refine qTk (v := ?_) 4 rfl (.inl ⟨by rfl, ?_⟩) ?_
    rotate_left
    ·
     (intro w hSw; (try dsimp only at hSw); go_simp; try with_reducible rfl)
    try simp only [Act.put, qa, qb, qc, qD, qE, qF]
    refine qTk (v := ?_) 5 rfl (.inl ⟨by rfl, ?_⟩) ?_
    rotate_left
    ·
     (intro w hSw; (try dsimp only at hSw); go_simp; try with_reducible rfl)
    try simp only [Act.put, qa, qb, qc, qD, qE, qF]
    refine qTk (v := ?_) 6 rfl (.inl ⟨by rfl, ?_⟩) ?_
    rotate_left
    ·
     (intro w hSw; (try dsimp only at hSw); go_simp; try with_reducible rfl)
    try simp only [Act.put, qa, qb, qc, qD, qE, qF]
    refine qTk (v := ?_) 7 rfl (.inl ⟨by rfl, ?_⟩) ?_
    rotate_left
    ·
     (intro w hSw; (try dsimp only at hSw); go_simp; try with_reducible rfl)
    try simp only [Act.put, qa, qb, qc, qD, qE, qF]
    have hw49 : IntKind.i64.wrap (i * v45) = i * v45 := IntWalk.i64_in _ (by omega)
    refine qTk (v := ?_) 8 rfl (.inl ⟨by rfl, ?_⟩) ?_
    rotate_left
    ·
     (intro w hSw; (try dsimp only at hSw); go_simp; try with_reducible rfl)
    try simp only [Act.put, qa, qb, qc, qD, qE, qF]
    have hw50 : IntKind.i64.wrap (b1 + (i * v45)) = b1 + (i * v45) := IntWalk.i64_in _ (by omega)
    refine qTk (v := ?_) 9 rfl (.inl ⟨by rfl, ?_⟩) ?_
    rotate_left
    ·
     (intro w hSw; (try dsimp only at hSw); go_simp; try with_reducible rfl)
    try simp only [Act.put, qa, qb, qc, qD, qE, qF]
    refine qTk (v := ?_) 10 rfl (.inl ⟨by rfl, ?_⟩) ?_
    rotate_left
    ·
     (intro w hSw; (try dsimp only at hSw); go_simp; try with_reducible rfl)
    try simp only [Act.put, qa, qb, qc, qD, qE, qF]
    refine wpTail_last (i := 11) qKr rfl rfl (fun K hK => ?_)
    try simp only [Act.put, qa, qb, qc, qD, qE, qF]
    go_simp
    refine hK.out _ _ ?_
    clear hK K
    try simp only [Act.put, qa, qb, qc, qD, qE, qF]
    refine wpTail_done qKr ?_ _
    clear hHeld hw49 hw50
    generalize hW9 : ((w3.setCell ⟨w2.heap.size, 0, none⟩ (.int .i64 (b1 + (i * v45)))).drew) = w4 at *
    have Kw4 : Chg (w2.heap.size) (w2.heap.size + 1) w3 w4 := by subst hW9; exact qCh
    have Xw4 : Ext w w4 := by subst hW9; exact qXt
    have BL40_w4 : Ext w2 w4 := by subst hW9; exact qXt
    replace b10 := BL40_w4.cell Q39_b10.out
    replace b11 := BL40_w4.cell Q39_b11.out
    replace b12 := BL40_w4.cell Q39_b12.out
    replace b20 := BL40_w4.cell Q39_b20.out
    replace f_b20 := BL40_w4.frz Q39_zb2 Q39_f_b20.out
    replace b21 := BL40_w4.cell Q39_b21.out
    replace f_b21 := BL40_w4.frz Q39_zb2 Q39_f_b21.out
    replace b22 := BL40_w4.cell Q39_b22.out
    replace f_b22 := BL40_w4.frz Q39_zb2 Q39_f_b22.out
    replace e340 := BL40_w4.cell Q39_e340.out
    replace b410 : w4.cell? ⟨w2.heap.size, 0, none⟩ = some (.int .i64 (b1 + (i * v45))) := by subst hW9; go_simp
    replace f_b410 : w4.frozen? ⟨w2.heap.size, 0, none⟩ = false := by subst hW9; go_simp
    replace b411 : w4.cell? ⟨w2.heap.size, 1, none⟩ = some (.slice afv37u ((delL s1 D).length) cfv37u) := by subst hW9; go_simp
    replace f_b411 : w4.frozen? ⟨w2.heap.size, 1, none⟩ = false := by subst hW9; go_simp
    replace b412 : w4.cell? ⟨w2.heap.size, 2, none⟩ = some (.slice afv37v ((delL t1 D).length) cfv37v) := by subst hW9; go_simp
    replace f_b412 : w4.frozen? ⟨w2.heap.size, 2, none⟩ = false := by subst hW9; go_simp
    replace e440 := Kw4.cell (by omega) e440
    replace i38u := (Q39_i38u.out).ext BL40_w4
    replace i38v := (Q39_i38v.out).ext BL40_w4
    clear Kw4
    have z_b1 : w.heap.size < w4.heap.size := qB b10
    have z_b2 : w.heap.size + 1 < w4.heap.size := qB b20
    have z_e34 : bl32 < w4.heap.size := qB e340
    have z_b41 : w2.heap.size < w4.heap.size := qB b410
    have z_e44 : bl42 < w4.heap.size := qB e440
    have s_w4 : w.heap.size ≤ w4.heap.size := Xw4.size
    clear hW9
    go_wp2_with fail
    by_cases hcl51 : countL (delL s1 D) = 0
    ·
     refine (cleared_0 (b1 + (i * v45)) _ _ (delL s1 D) _ _ (i38u.ext qXt) hcl51).mono ?_
     rintro e w5 ⟨svO52, rfl, O52, xw5⟩
     have Lw5 : Ext w4 w5 := Ext.trans qXt xw5
     have Xw5 : Ext w w5 := Xw4.trans Lw5
     replace b10 := Lw5.cell b10
     replace b11 := Lw5.cell b11
     replace b12 := Lw5.cell b12
     replace b20 := Lw5.cell b20
     replace b21 := Lw5.cell b21
     replace b22 := Lw5.cell b22
     replace f_b20 := Lw5.frz z_b2 f_b20
     replace f_b21 := Lw5.frz z_b2 f_b21
     replace f_b22 := Lw5.frz z_b2 f_b22
     replace e340 := Lw5.cell e340
     replace b410 := Lw5.cell b410
     replace b411 := Lw5.cell b411
     replace b412 := Lw5.cell b412
     replace f_b410 := Lw5.frz z_b41 f_b410
     replace f_b411 := Lw5.frz z_b41 f_b411
     replace f_b412 := Lw5.frz z_b41 f_b412
     replace e440 := Lw5.cell e440
     have z_b1 : w.heap.size < w5.heap.size := qB b10
     have z_b2 : w.heap.size + 1 < w5.heap.size := qB b20
     have z_e34 : bl32 < w5.heap.size := qB e340
     have z_b41 : w2.heap.size < w5.heap.size := qB b410
     have z_e44 : bl42 < w5.heap.size := qB e440
     replace i38u := i38u.ext Lw5
     replace i38v := i38v.ext Lw5
     have s_w5 : w.heap.size ≤ w5.heap.size := Xw5.size
     have BL40_w5 : Ext w2 w5 := BL40_w4.trans Lw5
     clear xw5
     obtain ⟨aa53, cc54, rfl⟩ := (O52.ints (by simp; omega)).form
     rw [List.length_replicate] at O52 ⊢
     go_wp2_with fail
     generalize hW10 : (((w5.setCell ⟨w.heap.size + 1, 0, none⟩ (.int .i64 0)).setCell ⟨w.heap.size + 1, 1, none⟩ (.slice afv37u ((delL s1 D).length) cfv37u)).setCell ⟨w.heap.size + 1, 2, none⟩ (.slice aa53 ((delL s1 D).length) cc54)) = w6 at *
     have Kw6 : Chg (w.heap.size + 1) (w.heap.size + 1 + 1) w5 w6 := by subst hW10; exact qCh
     have Xw6 : Ext w w6 := by subst hW10; exact qXt
     replace b10 := Kw6.cell (by omega) b10
     replace b11 := Kw6.cell (by omega) b11
     replace b12 := Kw6.cell (by omega) b12
     replace b20 : w6.cell? ⟨w.heap.size + 1, 0, none⟩ = some (.int .i64 0) := by subst hW10; go_simp
     replace f_b20 : w6.frozen? ⟨w.heap.size + 1, 0, none⟩ = false := by subst hW10; go_simp
     replace b21 : w6.cell? ⟨w.heap.size + 1, 1, none⟩ = some (.slice afv37u ((delL s1 D).length) cfv37u) := by subst hW10; go_simp
     replace f_b21 : w6.frozen? ⟨w.heap.size + 1, 1, none⟩ = false := by subst hW10; go_simp
     replace b22 : w6.cell? ⟨w.heap.size + 1, 2, none⟩ = some (.slice aa53 ((delL s1 D).length) cc54) := by subst hW10; go_simp
     replace f_b22 : w6.frozen? ⟨w.heap.size + 1, 2, none⟩ = false := by subst hW10; go_simp
     replace e340 := Kw6.cell (by omega) e340
     replace b410 := Kw6.cell (by omega) b410
     replace f_b410 := Kw6.frzO (by omega) z_b41 f_b410
     replace b411 := Kw6.cell (by omega) b411
     replace f_b411 := Kw6.frzO (by omega) z_b41 f_b411
     replace b412 := Kw6.cell (by omega) b412
     replace f_b412 := Kw6.frzO (by omega) z_b41 f_b412
     replace e440 := Kw6.cell (by omega) e440
     replace i38u := i38u.chg Kw6 (by omega)
     replace i38v := i38v.chg Kw6 (by omega)
     replace O52 := O52.chg Kw6 (by omega)
     clear Kw6
     have z_b1 : w.heap.size < w6.heap.size := qB b10
     have z_b2 : w.heap.size + 1 < w6.heap.size := qB b20
     have z_e34 : bl32 < w6.heap.size := qB e340
     have z_b41 : w2.heap.size < w6.heap.size := qB b410
     have z_e44 : bl42 < w6.heap.size := qB e440
     have s_w6 : w.heap.size ≤ w6.heap.size := Xw6.size
     clear hW10
     refine bodyPost_ret (v := .tuple #[.agg #[.int .i64 0, .slice afv37u ((delL s1 D).length) cfv37u, .slice aa53 ((delL s1 D).length) cc54], .bool true]) (by simp only [results, Try.results38]; go_simp) rfl ?_
     rw [pick_yes (j := i) hB3.out hv35.out hv45.out (by split <;> omega) (by omega) (by omega)]
     refine ⟨.slice afv37u ((delL s1 D).length) cfv37u, .slice aa53 ((delL s1 D).length) cc54, ?_, i38u.lower (by omega), ?_, Xw6⟩
     ·
      rw [show tidyB (b1 + i * v45) (delL s1 D) = 0 by unfold tidyB; rw [if_pos hcl51]]
     ·
      rw [show tidyT (delL s1 D) (delL t1 D) = List.replicate (delL s1 D).length 0 by unfold tidyT; rw [if_pos hcl51]]
      exact (O52.ints (by simp; omega)).lower (by omega)
    ·
     refine (cleared_1 (b1 + (i * v45)) _ _ (delL s1 D) (delL t1 D) _ _ _ (i38u.ext qXt) (i38v.ext qXt) hcl51).mono ?_
     rintro e w5 ⟨rfl, xw5⟩
     have Lw5 : Ext w4 w5 := Ext.trans qXt xw5
     have Xw5 : Ext w w5 := Xw4.trans Lw5
     replace b10 := Lw5.cell b10
     replace b11 := Lw5.cell b11
     replace b12 := Lw5.cell b12
     replace b20 := Lw5.cell b20
     replace b21 := Lw5.cell b21
     replace b22 := Lw5.cell b22
     replace f_b20 := Lw5.frz z_b2 f_b20
     replace f_b21 := Lw5.frz z_b2 f_b21
     replace f_b22 := Lw5.frz z_b2 f_b22
     replace e340 := Lw5.cell e340
     replace b410 := Lw5.cell b410
     replace b411 := Lw5.cell b411
     replace b412 := Lw5.cell b412
     replace f_b410 := Lw5.frz z_b41 f_b410
     replace f_b411 := Lw5.frz z_b41 f_b411
     replace f_b412 := Lw5.frz z_b41 f_b412
     replace e440 := Lw5.cell e440
     have z_b1 : w.heap.size < w5.heap.size := qB b10
     have z_b2 : w.heap.size + 1 < w5.heap.size := qB b20
     have z_e34 : bl32 < w5.heap.size := qB e340
     have z_b41 : w2.heap.size < w5.heap.size := qB b410
     have z_e44 : bl42 < w5.heap.size := qB e440
     replace i38u := i38u.ext Lw5
     replace i38v := i38v.ext Lw5
     have s_w5 : w.heap.size ≤ w5.heap.size := Xw5.size
     have BL40_w5 : Ext w2 w5 := BL40_w4.trans Lw5
     clear xw5
     go_wp2_with fail
     generalize hW11 : (((w5.setCell ⟨w.heap.size + 1, 0, none⟩ (.int .i64 (b1 + (i * v45)))).setCell ⟨w.heap.size + 1, 1, none⟩ (.slice afv37u ((delL s1 D).length) cfv37u)).setCell ⟨w.heap.size + 1, 2, none⟩ (.slice afv37v ((delL t1 D).length) cfv37v)) = w6 at *
     have Kw6 : Chg (w.heap.size + 1) (w.heap.size + 1 + 1) w5 w6 := by subst hW11; exact qCh
     have Xw6 : Ext w w6 := by subst hW11; exact qXt
     replace b10 := Kw6.cell (by omega) b10
     replace b11 := Kw6.cell (by omega) b11
     replace b12 := Kw6.cell (by omega) b12
     replace b20 : w6.cell? ⟨w.heap.size + 1, 0, none⟩ = some (.int .i64 (b1 + (i * v45))) := by subst hW11; go_simp
     replace f_b20 : w6.frozen? ⟨w.heap.size + 1, 0, none⟩ = false := by subst hW11; go_simp
     replace b21 : w6.cell? ⟨w.heap.size + 1, 1, none⟩ = some (.slice afv37u ((delL s1 D).length) cfv37u) := by subst hW11; go_simp
     replace f_b21 : w6.frozen? ⟨w.heap.size + 1, 1, none⟩ = false := by subst hW11; go_simp
     replace b22 : w6.cell? ⟨w.heap.size + 1, 2, none⟩ = some (.slice afv37v ((delL t1 D).length) cfv37v) := by subst hW11; go_simp
     replace f_b22 : w6.frozen? ⟨w.heap.size + 1, 2, none⟩ = false := by subst hW11; go_simp
     replace e340 := Kw6.cell (by omega) e340
     replace b410 := Kw6.cell (by omega) b410
     replace f_b410 := Kw6.frzO (by omega) z_b41 f_b410
     replace b411 := Kw6.cell (by omega) b411
     replace f_b411 := Kw6.frzO (by omega) z_b41 f_b411
     replace b412 := Kw6.cell (by omega) b412
     replace f_b412 := Kw6.frzO (by omega) z_b41 f_b412
     replace e440 := Kw6.cell (by omega) e440
     replace i38u := i38u.chg Kw6 (by omega)
     replace i38v := i38v.chg Kw6 (by omega)
     clear Kw6
     have z_b1 : w.heap.size < w6.heap.size := qB b10
     have z_b2 : w.heap.size + 1 < w6.heap.size := qB b20
     have z_e34 : bl32 < w6.heap.size := qB e340
     have z_b41 : w2.heap.size < w6.heap.size := qB b410
     have z_e44 : bl42 < w6.heap.size := qB e440
     have s_w6 : w.heap.size ≤ w6.heap.size := Xw6.size
     clear hW11
     refine bodyPost_ret (v := .tuple #[.agg #[.int .i64 (b1 + (i * v45)), .slice afv37u ((delL s1 D).length) cfv37u, .slice afv37v ((delL t1 D).length) cfv37v], .bool true]) (by simp only [results, Try.results38]; go_simp) rfl ?_
     rw [pick_yes (j := i) hB3.out hv35.out hv45.out (by split <;> omega) (by omega) (by omega)]
     refine ⟨.slice afv37u ((delL s1 D).length) cfv37u, .slice afv37v ((delL t1 D).length) cfv37v, ?_, i38u.lower (by omega), ?_, Xw6⟩
     ·
      rw [show tidyB (b1 + i * v45) (delL s1 D) = b1 + i * v45 by unfold tidyB; rw [if_neg hcl51]]
     ·
      rw [show tidyT (delL s1 D) (delL t1 D) = delL t1 D by unfold tidyT; rw [if_neg hcl51]]
      exact i38v.lower (by omega)


end Go.Proofs.Ytonnnjaooifpjaa

/- Walks: drawn memories, views of memories, values. -/
namespace Go.Proofs.Ytonnnjaooifpjaa
open Go.RowKit
set_option linter.unusedVariables false
set_option maxRecDepth 100000

theorem Ints.len_eq {w : World} {lo : Nat} {p : Option Addr} {n r : Nat} {s : List Int} (h : Ints w lo (.slice p n r) s) : n = s.length := by
  obtain ⟨a, c, e⟩ := h.form; simp at e; exact e.2.1
def PMem (rb k : Nat) (w : World) (e : Ending) (w' : World) : Prop := ∃ v xs, e = .returned v ∧ OwnI w' w.heap.size v xs ∧ xs.length ≤ 60 ∧ Rd w' rb k ∧ Chg rb (rb + 1) w w'
set_option maxHeartbeats 3200000 in
theorem someMemory_c (rb k : Nat) (w : World) (hr : Rd w rb k) (hk : k ≤ 700000) :
    Calls Try.prog 132 #[.pointer (some ⟨rb, 0, none⟩)] w (PMem rb (k + 70) w) := by
  have hlt := hr.lt
  go_enter Try.func132, Try.ntmps132
  go_wp2_with fail
  refine (oneLit_c _ _ _ rb _ _ (by repeat (first | (with_reducible exact hr) | (with_reducible apply Rd.drewN) | (with_reducible apply Rd.drew) | (with_reducible apply Rd.alloc) | ((with_reducible apply Rd.set2); (· first | assumption | (simp; omega) | (simp; done) | omega)))) (by omega) (by rfl) (by rfl) (by constructor <;> simp) (by first | rfl | simp)).mono ?_
  rintro e w1 ⟨n, rfl, hn, hr1, hC1⟩
  have hn' : 5 ≤ n ∧ n ≤ 60 := by simp [litL] at hn; omega
  clear hn
  obtain ⟨m, rfl⟩ : ∃ m : Nat, n = m := ⟨n.toNat, by omega⟩
  have ho1 : OwnI w1 w.heap.size (.slice (some ⟨w.heap.size, 0, none⟩) 0 0) [] := ((OwnI.lit0 w w.heap.size (Nat.le_refl _)).ext qXo).chg hC1 hlt
  have hX1 : Chg rb (rb + 1) w w1 := Chg.trans (Chg.of_ext qXo) hC1
  clear hC1
  go_wp2_with fail
  go_loopw [3, 4] (fun v i wr => ∃ (q m : Nat) (xs : List Int), i = .int .i64 m ∧ (xs.length + m ≤ 60 ∧ 1 ≤ xs.length + m) ∧ OwnI wr w.heap.size v xs ∧ Rd wr rb q ∧ q + m ≤ k + 62 ∧ Chg rb (rb + 1) w wr) (fun _ i _ => (intOf i).toNat)
  case atStart => exact ⟨k + 1, m, [], rfl, by simp; omega, ho1, hr1, by omega, hX1⟩
  case round =>
    obtain ⟨q, m, xs, rfl, hl, ho, hr, hq, hX⟩ := hrel
    have hz : w.heap.size ≤ wr.heap.size := hX.size
    cases m with
    | succ m =>
      have hI : (0 : Int) < ((m + 1 : Nat) : Int) := by omega
      have hI2 : ((m + 1 : Nat) : Int) - 1 = (m : Int) := by omega
      go_wp2_with fail
      refine (pick1_c _ rb _ _ hr (by omega) (by omega)).mono ?_
      rintro e w2 ⟨x, rfl, hx, hr2, hC2⟩
      have ho2 := ho.chg hC2 hlt
      have hX2 : Chg rb (rb + 1) w w2 := hX.trans hC2
      have hz2 : w.heap.size ≤ w2.heap.size := hX2.size
      clear hC2 hX ho hr hx
      replace ho2 := Lib.hid ho2
      replace hX2 := Lib.hid hX2
      replace hr2 := Lib.hid hr2
      go_wp2_with (at_builtin; refine wpList_app rfl (.tmp 13) (.tmp 16) rfl rfl rfl (ho2.out.ext ((Ext.refl _).alloc _)) (Ints.one _ 0 _ (Nat.zero_le _)) (by simp only [List.length_cons, List.length_nil]; omega) (by simp; omega) ?_; intro v' w3 ho3 _ hb3 _; replace ho3 := Lib.hid ho3)
      go_roundw
      case rel => exact ⟨q + 1, m, xs ++ [x], by first | rfl | go_num, by simp; omega, ho3.out, (hr2.out.alloc _).below hb3 hlt, by omega, Rch.below (hX2.out.ext qXo) hb3⟩
      case measure => simp [intOf]
    | zero =>
      have hne : xs ≠ [] := by intro h; subst h; simp at hl
      obtain ⟨g, n2, c, rfl, hn2, G, G'⟩ := ho.row2 hne
      have hlx : 0 < xs.length := by omega
      have hnI : Hid ((0 : Int) < (n2 : Int)) := Lib.hid (by have := hn2.out; omega)
      replace hne := Lib.hid hne
      go_wp2_with fail
      refine (pick1_c _ rb _ _ hr (by omega) (by omega)).mono ?_
      rintro e w2 ⟨x, rfl, hx, hr2, hC2⟩
      have ho2 := ho.chg hC2 hlt
      have hX2 : Chg rb (rb + 1) w w2 := hX.trans hC2
      clear hC2 hX ho hr hx
      by_cases hx0 : x = 0
      · subst hx0
        go_wp2_with fail
        refine (oneLit_c _ _ _ rb _ _ (by exact hr2) (by omega) (by rfl) (by rfl) (by constructor <;> simp) (by first | rfl | simp)).mono ?_
        rintro e w3 ⟨y, rfl, hy, hr3, hC3⟩
        have ho3 := (ho2.ext qXo).chg hC3 hlt
        have hX3 : Chg rb (rb + 1) w w3 := (hX2.ext qXo).trans hC3
        have hz3 := hX3.size
        clear hC3 hX2 ho2 hr2 hy
        obtain ⟨A1, A2⟩ := ho3.cell 0 hlx
        have hnI' := hnI.out
        replace ho3 := Lib.hid ho3
        go_wp2_with fail
        go_ret
        exact ⟨_, xs.set 0 y, rfl, ho3.out.set 0 y hlx, by simp; omega, (Rd.set2 (by simp; omega) hr3).mono (by omega), Rch.set hX3 (by simp; omega) _⟩
      · have hxe : (x == 0) = false := by simpa using hx0
        replace hx0 := Lib.hid hx0
        replace ho2 := Lib.hid ho2
        go_wp2_with fail
        go_ret
        exact ⟨_, xs, rfl, ho2.out, by omega, hr2.mono (by omega), hX2⟩

/-- a memory and a view are drawn -/
def PMV (lo : Nat) (e : Ending) (w' : World) : Prop := ∃ (mem : List Int) (p0 : Option Addr) (n0 r0 : Nat) (b : Int) (s t : List Int) (p1 p2 : Option Addr) (n1 r1 n2 r2 : Nat), e = .returned (.tuple #[.slice p0 n0 r0, .agg #[.int .i64 b, .slice p1 n1 r1, .slice p2 n2 r2]]) ∧ mem.length ≤ 60 ∧
  Ints w' lo (.slice p0 n0 r0) mem ∧ Ints w' lo (.slice p1 n1 r1) s ∧ Ints w' lo (.slice p2 n2 r2) t ∧ s.length ≤ 4 ∧ t.length ≤ 5
set_option maxHeartbeats 3200000 in
theorem memView_c (rb k : Nat) (w : World) (hr : Rd w rb k) (hk : k ≤ 600000) :
    Calls Try.prog 78 #[.pointer (some ⟨rb, 0, none⟩)] w (fun e w' => PMV w.heap.size e w' ∧ Rd w' rb (k + 280) ∧ Chg rb (rb + 1) w w') := by
  have hlt := hr.lt
  go_enter Try.func78, Try.ntmps78
  go_wp2_with fail
  refine (someMemory_c rb k _ (hr.alloc _) (by omega)).mono ?_
  rintro e w1 ⟨v, mem, rfl, o0, hml, hr1, C1⟩
  have i0 := (o0.ints (by omega)).lower (show w.heap.size + 1 ≤ _ by simp)
  clear o0
  obtain ⟨p0, n0, r0, rfl⟩ := i0.any
  have E0 : Ext w (w.alloc (.cells #[.int .i64 0, .slice none 0 0, .slice none 0 0] 25)) := qXt
  have X1 : Chg rb (rb + 1) w w1 := (Chg.of_ext E0).trans C1
  have q0 : w1.cell? ⟨w.heap.size, 0, none⟩ = some (.int .i64 0) := C1.cell (.inr (by omega)) (by simp)
  have q1 : w1.cell? ⟨w.heap.size, 1, none⟩ = some (.slice none 0 0) := C1.cell (.inr (by omega)) (by simp)
  have q2 : w1.cell? ⟨w.heap.size, 2, none⟩ = some (.slice none 0 0) := C1.cell (.inr (by omega)) (by simp)
  have f0 : w1.frozen? ⟨w.heap.size, 0, none⟩ = false := C1.frzO (.inr (by omega)) (by simp) (by simp)
  have f1 : w1.frozen? ⟨w.heap.size, 1, none⟩ = false := C1.frzO (.inr (by omega)) (by simp) (by simp)
  have f2 : w1.frozen? ⟨w.heap.size, 2, none⟩ = false := C1.frzO (.inr (by omega)) (by simp) (by simp)
  have z1 : w.heap.size < w1.heap.size := qB q0
  clear C1 E0 hr
  go_wp2_with fail
  refine (someView_c _ _ _ hr1 (by omega)).mono ?_
  rintro e w2 ⟨b, s, t, p1, p2, n1, r1, n2, r2, rfl, i1, i2, l1, l2, hr2, C⟩
  have X2 : Chg rb (rb + 1) w w2 := X1.trans C
  replace i0 := i0.chg C (by omega)
  replace q0 := C.cell (.inr (by omega)) q0
  replace q1 := C.cell (.inr (by omega)) q1
  replace q2 := C.cell (.inr (by omega)) q2
  replace f0 := C.frzO (.inr (by omega)) (by omega) f0
  replace f1 := C.frzO (.inr (by omega)) (by omega) f1
  replace f2 := C.frzO (.inr (by omega)) (by omega) f2
  have z2 : w.heap.size < w2.heap.size := qB q0
  have z12 := C.size
  clear C X1 hr1
  go_wp2_with fail
  refine bodyPost_ret (v := .tuple #[.slice p0 n0 r0, .agg #[.int .i64 b, .slice p1 n1 r1, .slice p2 n2 r2]]) (by simp only [results, Try.results78]; go_simp) rfl ?_
  have K := Chg.three (lo := w.heap.size) w2 (.int .i64 b) (.slice p1 n1 r1) (.slice p2 n2 r2)
  replace i1 := i1.chg K (by omega)
  replace i2 := i2.chg K (by omega)
  exact ⟨⟨mem, p0, n0, r0, b, s, t, p1, p2, n1, r1, n2, r2, rfl, hml, (i0.chg K (by omega)).lower (by omega), i1.lower (by omega), i2.lower (by omega), l1, l2⟩, (Rd.set2 (by simp; omega) (Rd.set2 (by simp; omega) (Rd.set2 (by simp; omega) hr2))).mono (by omega), Rch.set (Rch.set (Rch.set X2 (by simp) _) (by simp) _) (by simp) _⟩
def PMemView (w : World) (e : Ending) (w' : World) : Prop := PMV w.heap.size e w' ∧ Ext w w'

end Go.Proofs.Ytonnnjaooifpjaa

/- Walks: views and memories are drawn. -/
namespace Go.Proofs.Ytonnnjaooifpjaa
open Go.RowKit
set_option linter.unusedVariables false
set_option maxRecDepth 100000

set_option maxHeartbeats 3200000 in
theorem drawIsCol_c (a : Option Addr) (n cap : Nat) (w : World) (hb : BysIn w a n cap) :
    Calls Try.prog 15 #[.slice a n cap] w (PDraw w) := by
  go_enter Try.func15, Try.ntmps15
  go_wp2_with fail
  refine (newReader_c a n cap _ (hb.ext qXt)).mono ?_
  rintro e w1 ⟨rfl, hr, x1⟩
  simp only [World.size_alloc] at hr
  have X1 : Ext w w1 := Ext.trans qXt x1
  have q0 : w1.cell? ⟨w.heap.size, 0, none⟩ = some (.int .i64 0) := x1.cell (by simp)
  have q1 : w1.cell? ⟨w.heap.size, 1, none⟩ = some (.slice none 0 0) := x1.cell (by simp)
  have q2 : w1.cell? ⟨w.heap.size, 2, none⟩ = some (.slice none 0 0) := x1.cell (by simp)
  have f0 : w1.frozen? ⟨w.heap.size, 0, none⟩ = false := x1.frz (by simp) (by simp)
  have f1 : w1.frozen? ⟨w.heap.size, 1, none⟩ = false := x1.frz (by simp) (by simp)
  have f2 : w1.frozen? ⟨w.heap.size, 2, none⟩ = false := x1.frz (by simp) (by simp)
  have z1 := hr.lt
  clear hb x1
  go_wp2_with fail
  refine (someView_c _ 0 _ hr (by omega)).mono ?_
  rintro e w2 ⟨b, s, t, p1, p2, n1, r1, n2, r2, rfl, i1, i2, l1, l2, hr2, C⟩
  have X2 : Ext w w2 := Rch.toExt' C (by omega) X1
  replace q0 := C.cell (.inl (by omega)) q0
  replace q1 := C.cell (.inl (by omega)) q1
  replace q2 := C.cell (.inl (by omega)) q2
  replace f0 := C.frzO (.inl (by omega)) (by omega) f0
  replace f1 := C.frzO (.inl (by omega)) (by omega) f1
  replace f2 := C.frzO (.inl (by omega)) (by omega) f2
  have z2 : w.heap.size < w2.heap.size := qB q0
  clear C X1 hr
  go_wp2_with fail
  refine bodyPost_ret (v := .agg #[.int .i64 b, .slice p1 n1 r1, .slice p2 n2 r2]) (by simp only [results, Try.results15]; go_simp) rfl ?_
  have K := Chg.three (lo := w.heap.size) w2 (.int .i64 b) (.slice p1 n1 r1) (.slice p2 n2 r2)
  replace i1 := i1.chg K (by omega)
  replace i2 := i2.chg K (by omega)
  have X9 : Ext w (((w2.setCell ⟨w.heap.size, 0, none⟩ (.int .i64 b)).setCell ⟨w.heap.size, 1, none⟩ (.slice p1 n1 r1)).setCell ⟨w.heap.size, 2, none⟩ (.slice p2 n2 r2)) := Ext.chg (lo := w.heap.size) (hi := w.heap.size + 1) X2 K (Nat.le_refl _)
  exact ⟨b, s, t, p1, p2, n1, r1, n2, r2, rfl, i1.lower (by omega), i2.lower (by omega), l1, l2, X9⟩


set_option maxHeartbeats 3200000 in
theorem drawTensorOf_c (a : Option Addr) (n cap : Nat) (w : World) (hb : BysIn w a n cap) :
    Calls Try.prog 23 #[.slice a n cap] w (PMemView w) := by
  go_enter Try.func23, Try.ntmps23
  go_wp2_with fail
  refine (newReader_c a n cap _ (hb.ext qXt)).mono ?_
  rintro e w1 ⟨rfl, hr, x1⟩
  simp only [World.size_alloc] at hr
  have X1 : Ext w w1 := Ext.trans qXt x1
  have q0 : w1.cell? ⟨w.heap.size, 0, none⟩ = some (.int .i64 0) := x1.cell (by simp)
  have q1 : w1.cell? ⟨w.heap.size, 1, none⟩ = some (.slice none 0 0) := x1.cell (by simp)
  have q2 : w1.cell? ⟨w.heap.size, 2, none⟩ = some (.slice none 0 0) := x1.cell (by simp)
  have f0 : w1.frozen? ⟨w.heap.size, 0, none⟩ = false := x1.frz (by simp) (by simp)
  have f1 : w1.frozen? ⟨w.heap.size, 1, none⟩ = false := x1.frz (by simp) (by simp)
  have f2 : w1.frozen? ⟨w.heap.size, 2, none⟩ = false := x1.frz (by simp) (by simp)
  have z1 := hr.lt
  clear hb x1
  go_wp2_with fail
  refine (memView_c _ 0 _ hr (by omega)).mono ?_
  rintro e w2 ⟨⟨mem, p0, n0, r0, b, s, t, p1, p2, n1, r1, n2, r2, rfl, hml, i0, i1, i2, l1, l2⟩, hr2, C⟩
  have X2 : Ext w w2 := Rch.toExt' C (by omega) X1
  replace q0 := C.cell (.inl (by omega)) q0
  replace q1 := C.cell (.inl (by omega)) q1
  replace q2 := C.cell (.inl (by omega)) q2
  replace f0 := C.frzO (.inl (by omega)) (by omega) f0
  replace f1 := C.frzO (.inl (by omega)) (by omega) f1
  replace f2 := C.frzO (.inl (by omega)) (by omega) f2
  have z2 : w.heap.size < w2.heap.size := qB q0
  clear C X1 hr
  go_wp2_with fail
  refine bodyPost_ret (v := .tuple #[.slice p0 n0 r0, .agg #[.int .i64 b, .slice p1 n1 r1, .slice p2 n2 r2]]) (by simp only [results, Try.results23]; go_simp) rfl ?_
  have K := Chg.three (lo := w.heap.size) w2 (.int .i64 b) (.slice p1 n1 r1) (.slice p2 n2 r2)
  replace i0 := i0.chg K (by omega)
  replace i1 := i1.chg K (by omega)
  replace i2 := i2.chg K (by omega)
  have X9 : Ext w (((w2.setCell ⟨w.heap.size, 0, none⟩ (.int .i64 b)).setCell ⟨w.heap.size, 1, none⟩ (.slice p1 n1 r1)).setCell ⟨w.heap.size, 2, none⟩ (.slice p2 n2 r2)) := Ext.chg (lo := w.heap.size) (hi := w.heap.size + 1) X2 K (Nat.le_refl _)
  exact ⟨⟨mem, p0, n0, r0, b, s, t, p1, p2, n1, r1, n2, r2, rfl, hml, i0.lower (by omega), i1.lower (by omega), i2.lower (by omega), l1, l2⟩, X9⟩


end Go.Proofs.Ytonnnjaooifpjaa

/- Walks: a view and a dimension are drawn. -/
namespace Go.Proofs.Ytonnnjaooifpjaa
open Go.RowKit
set_option linter.unusedVariables false
set_option maxRecDepth 100000

def SDim (rb k : Nat) (w : World) (e : Ending) (w' : World) : Prop := ∃ (b : Int) (s t : List Int) (p1 p2 : Option Addr) (r1 r2 : Nat) (x : Int), e = .returned (.tuple #[.agg #[.int .i64 b, .slice p1 s.length r1, .slice p2 t.length r2], .int .i64 x]) ∧
 Ints w' w.heap.size (.slice p1 s.length r1) s ∧ Ints w' w.heap.size (.slice p2 t.length r2) t ∧ s.length ≤ 4 ∧ t.length ≤ 5 ∧ (-1 ≤ x ∧ x ≤ 5) ∧ Rd w' rb k ∧ Chg rb (rb + 1) w w'
set_option maxHeartbeats 3200000 in
theorem dimOf_c (rb k : Nat) (w : World) (hr : Rd w rb k) (hk : k ≤ 600000) :
  Calls Try.prog 88 #[.pointer (some ⟨rb, 0, none⟩)] w (SDim rb (k + 300) w) := by
 have hlt := hr.lt
 go_enter Try.func88, Try.ntmps88
 go_wp2_with fail
 generalize hW1 : w.alloc (.cells #[.int .i64 0, .slice none 0 0, .slice none 0 0] 25) = w1 at *
 have Lw1 : Ext w w1 := by subst hW1; exact qXt
 have Xw1 : Rch rb w w1 := Rch.ext (Rch.refl rb w) Lw1
 replace hr := hr.ext Lw1
 have q0 : w1.cell? ⟨w.heap.size, 0, none⟩ = some (.int .i64 0) := by subst hW1; exact qCl
 have q1 : w1.cell? ⟨w.heap.size, 1, none⟩ = some (.slice none 0 0) := by subst hW1; exact qCl
 have q2 : w1.cell? ⟨w.heap.size, 2, none⟩ = some (.slice none 0 0) := by subst hW1; exact qCl
 have f_q0 : w1.frozen? ⟨w.heap.size, 0, none⟩ = false := by subst hW1; exact qFz
 have f_q1 : w1.frozen? ⟨w.heap.size, 1, none⟩ = false := by subst hW1; exact qFz
 have f_q2 : w1.frozen? ⟨w.heap.size, 2, none⟩ = false := by subst hW1; exact qFz
 have z_q : w.heap.size < w1.heap.size := qB q0
 have s_w1 : w.heap.size ≤ w1.heap.size := Xw1.size
 clear hW1
 refine (someView_c rb k _ hr (by omega)).mono ?_
 rintro e w2 ⟨b, s, t, p1, p2, n1, r1, n2, r2, rfl, i1, i2, l1, l2, Rw2, Cw2⟩
 have zc_w2 := Cw2.size
 have Xw2 : Rch rb w w2 := Rch.step (Xw1) Cw2
 replace q0 := Cw2.cell (by omega) q0
 replace f_q0 := Cw2.frzO (by omega) (by omega) f_q0
 replace q1 := Cw2.cell (by omega) q1
 replace f_q1 := Cw2.frzO (by omega) (by omega) f_q1
 replace q2 := Cw2.cell (by omega) q2
 replace f_q2 := Cw2.frzO (by omega) (by omega) f_q2
 have z_q : w.heap.size < w2.heap.size := qB q0
 have s_w2 : w.heap.size ≤ w2.heap.size := Xw2.size
 clear hr Cw2
 obtain rfl := i1.len_eq
 obtain rfl := i2.len_eq
 go_wp2_with fail
 generalize hW2 : w2.alloc (.cells #[.int .i64 b, .slice p1 s.length r1, .slice p2 t.length r2] 25) = w3 at *
 have Lw3 : Ext w2 w3 := by subst hW2; exact qXt
 have Xw3 : Rch rb w w3 := Rch.ext Xw2 Lw3
 replace Rw2 := Rw2.ext Lw3
 replace q0 := Lw3.cell q0
 replace q1 := Lw3.cell q1
 replace q2 := Lw3.cell q2
 replace f_q0 := Lw3.frz z_q f_q0
 replace f_q1 := Lw3.frz z_q f_q1
 replace f_q2 := Lw3.frz z_q f_q2
 have v0 : w3.cell? ⟨w2.heap.size, 0, none⟩ = some (.int .i64 b) := by subst hW2; exact qCl
 have v1 : w3.cell? ⟨w2.heap.size, 1, none⟩ = some (.slice p1 s.length r1) := by subst hW2; exact qCl
 have v2 : w3.cell? ⟨w2.heap.size, 2, none⟩ = some (.slice p2 t.length r2) := by subst hW2; exact qCl
 have z_q : w.heap.size < w3.heap.size := qB q0
 have z_v : w2.heap.size < w3.heap.size := qB v0
 replace i1 := i1.ext Lw3
 replace i2 := i2.ext Lw3
 have s_w3 : w.heap.size ≤ w3.heap.size := Xw3.size
 clear hW2
 go_wp2_with fail
 have hw0 : IntKind.i64.wrap ((s.length : Int) + 1) = (s.length : Int) + 1 := IntWalk.i64_in _ (by omega)
 refine wp_region_held_drew (S := fun w' => w'.cell? ⟨w2.heap.size, 0, none⟩ = some (.int .i64 b) ∧ w'.cell? ⟨w2.heap.size, 1, none⟩ = some (.slice p1 s.length r1) ∧ w'.cell? ⟨w2.heap.size, 2, none⟩ = some (.slice p2 t.length r2)) qKr ⟨v0, v1, v2⟩ (fun hHeld => ?_)
 refine qHk (v := ?_) 0 rfl (.inl ⟨by rfl, ?_⟩) ?_
 rotate_left
 ·
  (intro w hSw; (try dsimp only at hSw); go_simp; try with_reducible rfl)
 try simp only [Act.put, qa, qb, qc, qD, qE, qF]
 refine qHk (v := ?_) 1 rfl (.inl ⟨by rfl, ?_⟩) ?_
 rotate_left
 ·
  (intro w hSw; (try dsimp only at hSw); go_simp; try with_reducible rfl)
 try simp only [Act.put, qa, qb, qc, qD, qE, qF]
 refine qHk (v := ?_) 2 rfl (.inl ⟨by rfl, ?_⟩) ?_
 rotate_left
 ·
  (intro w hSw; (try dsimp only at hSw); go_simp; try with_reducible rfl)
 try simp only [Act.put, qa, qb, qc, qD, qE, qF]
 refine qHk (v := ?_) 3 rfl (.inl ⟨by rfl, ?_⟩) ?_
 rotate_left
 ·
  (intro w hSw; (try dsimp only at hSw); go_simp; try with_reducible rfl)
 try simp only [Act.put, qa, qb, qc, qD, qE, qF]
 refine qHk (v := ?_) 4 rfl (.inl ⟨by rfl, ?_⟩) ?_
 rotate_left
 ·
  (intro w hSw; (try dsimp only at hSw); go_simp; try with_reducible rfl)
 try simp only [Act.put, qa, qb, qc, qD, qE, qF]
 refine qHk (v := ?_) 5 rfl (.inl ⟨by rfl, ?_⟩) ?_
 rotate_left
 ·
  (intro w hSw; (try dsimp only at hSw); go_simp; try with_reducible rfl)
 try simp only [Act.put, qa, qb, qc, qD, qE, qF]
 refine qHk (v := ?_) 6 rfl (.inl ⟨by rfl, ?_⟩) ?_
 rotate_left
 ·
  (intro w hSw; (try dsimp only at hSw); go_simp; try with_reducible rfl)
 try simp only [Act.put, qa, qb, qc, qD, qE, qF]
 refine qHk (v := ?_) 8 rfl (.inl ⟨by rfl, ?_⟩) ?_
 rotate_left
 ·
  (intro w hSw; (try dsimp only at hSw); go_simp; try with_reducible rfl)
 try simp only [Act.put, qa, qb, qc, qD, qE, qF]
 refine qHk (v := ?_) 9 rfl (.inl ⟨by rfl, ?_⟩) ?_
 rotate_left
 ·
  (intro w hSw; (try dsimp only at hSw); go_simp; try with_reducible rfl)
 try simp only [Act.put, qa, qb, qc, qD, qE, qF]
 refine qHk (v := ?_) 10 rfl (.inl ⟨by rfl, ?_⟩) ?_
 rotate_left
 ·
  (intro w hSw; (try dsimp only at hSw); go_simp; try with_reducible rfl)
 try simp only [Act.put, qa, qb, qc, qD, qE, qF]
 refine qHk (v := ?_) 11 rfl (.inl ⟨by rfl, ?_⟩) ?_
 rotate_left
 ·
  (intro w hSw; (try dsimp only at hSw); go_simp; try with_reducible rfl)
 try simp only [Act.put, qa, qb, qc, qD, qE, qF]
 refine qHk (v := ?_) 12 rfl (.inl ⟨by rfl, ?_⟩) ?_
 rotate_left
 ·
  (intro w hSw; (try dsimp only at hSw); go_simp; try with_reducible rfl)
 try simp only [Act.put, qa, qb, qc, qD, qE, qF]
 refine qHr 7 rfl (fun K hK => ?_)
 try simp only [Act.put, qa, qb, qc, qD, qE, qF]
 go_simp
 refine (pick1_c ((s.length : Int) + 1) rb _ _ (Rw2.ext qXt) (by omega) (by omega)).mono ?_
 rintro e w4 ⟨x1, rfl, hx1, Rw4, Cw4⟩
 have Ew4 : Ext w3 (w3.drew) := qXt
 have e_w4 := Ew4.size
 have zc_w4 := Cw4.size
 simp only [World.size_drew, World.size_alloc] at zc_w4
 have Xw4 : Rch rb w w4 := Rch.step (Rch.ext Xw3 Ew4) Cw4
 replace q0 := Cw4.cell (by omega) (Ew4.cell q0)
 replace f_q0 := Cw4.frzO (by omega) (by omega) (Ew4.frz z_q f_q0)
 replace q1 := Cw4.cell (by omega) (Ew4.cell q1)
 replace f_q1 := Cw4.frzO (by omega) (by omega) (Ew4.frz z_q f_q1)
 replace q2 := Cw4.cell (by omega) (Ew4.cell q2)
 replace f_q2 := Cw4.frzO (by omega) (by omega) (Ew4.frz z_q f_q2)
 replace v0 := Cw4.cell (by omega) (Ew4.cell v0)
 replace v1 := Cw4.cell (by omega) (Ew4.cell v1)
 replace v2 := Cw4.cell (by omega) (Ew4.cell v2)
 have z_q : w.heap.size < w4.heap.size := qB q0
 have z_v : w2.heap.size < w4.heap.size := qB v0
 replace i1 := (i1.ext Ew4).chg Cw4 (by omega)
 replace i2 := (i2.ext Ew4).chg Cw4 (by omega)
 have s_w4 : w.heap.size ≤ w4.heap.size := Xw4.size
 clear Rw2 Cw4 Ew4
 refine hK.out _ _ ⟨v0, v1, v2⟩ (fun hHeld => ?_)
 clear hK K
 try simp only [Act.put, qa, qb, qc, qD, qE, qF]
 refine qHr 13 rfl (fun K hK => ?_)
 try simp only [Act.put, qa, qb, qc, qD, qE, qF]
 go_simp
 refine (pick1_c ((s.length : Int) + 1) rb _ _ Rw4 (by omega) (by omega)).mono ?_
 rintro e w5 ⟨x2, rfl, hx2, Rw5, Cw5⟩
 have zc_w5 := Cw5.size
 have Xw5 : Rch rb w w5 := Rch.step (Xw4) Cw5
 replace q0 := Cw5.cell (by omega) q0
 replace f_q0 := Cw5.frzO (by omega) (by omega) f_q0
 replace q1 := Cw5.cell (by omega) q1
 replace f_q1 := Cw5.frzO (by omega) (by omega) f_q1
 replace q2 := Cw5.cell (by omega) q2
 replace f_q2 := Cw5.frzO (by omega) (by omega) f_q2
 replace v0 := Cw5.cell (by omega) v0
 replace v1 := Cw5.cell (by omega) v1
 replace v2 := Cw5.cell (by omega) v2
 have z_q : w.heap.size < w5.heap.size := qB q0
 have z_v : w2.heap.size < w5.heap.size := qB v0
 replace i1 := i1.chg Cw5 (by omega)
 replace i2 := i2.chg Cw5 (by omega)
 have s_w5 : w.heap.size ≤ w5.heap.size := Xw5.size
 clear Rw4 Cw5
 refine hK.out _ _ ⟨v0, v1, v2⟩ (fun hHeld => ?_)
 clear hK K
 try simp only [Act.put, qa, qb, qc, qD, qE, qF]
 refine qHr 14 rfl (fun K hK => ?_)
 try simp only [Act.put, qa, qb, qc, qD, qE, qF]
 go_simp
 skip
 refine hK.out _ _ ⟨(show Ext w5 _ from qXt).cell v0, (show Ext w5 _ from qXt).cell v1, (show Ext w5 _ from qXt).cell v2⟩ (fun hHeld => ?_)
 clear hK K
 try simp only [Act.put, qa, qb, qc, qD, qE, qF]
 refine qHr 15 rfl (fun K hK => ?_)
 try simp only [Act.put, qa, qb, qc, qD, qE, qF]
 go_simp
 refine (oneLit_c _ _ _ rb _ _ Rw5 (by omega) (by rfl) (by rfl) (by constructor <;> simp) (by first | rfl | simp)).mono ?_
 rintro e w6 ⟨x, rfl, hx, Rw6, Cw6⟩
 have Ew6 : Ext w5 (w5.alloc (.cells #[.int .i64 0, .int .i64 x1, .int .i64 1, .int .i64 x2, .int .i64 (-1)] 3)) := qXt
 have e_w6 := Ew6.size
 have zc_w6 := Cw6.size
 have Xw6 : Rch rb w w6 := Rch.step (Rch.ext Xw5 Ew6) Cw6
 replace q0 := Cw6.cell (by omega) (Ew6.cell q0)
 replace f_q0 := Cw6.frzO (by omega) (by omega) (Ew6.frz z_q f_q0)
 replace q1 := Cw6.cell (by omega) (Ew6.cell q1)
 replace f_q1 := Cw6.frzO (by omega) (by omega) (Ew6.frz z_q f_q1)
 replace q2 := Cw6.cell (by omega) (Ew6.cell q2)
 replace f_q2 := Cw6.frzO (by omega) (by omega) (Ew6.frz z_q f_q2)
 replace v0 := Cw6.cell (by omega) (Ew6.cell v0)
 replace v1 := Cw6.cell (by omega) (Ew6.cell v1)
 replace v2 := Cw6.cell (by omega) (Ew6.cell v2)
 have z_q : w.heap.size < w6.heap.size := qB q0
 have z_v : w2.heap.size < w6.heap.size := qB v0
 replace i1 := (i1.ext Ew6).chg Cw6 (by omega)
 replace i2 := (i2.ext Ew6).chg Cw6 (by omega)
 have s_w6 : w.heap.size ≤ w6.heap.size := Xw6.size
 clear Rw5 Cw6 Ew6
 replace hx : -1 ≤ x ∧ x ≤ 5 := by simp [litL] at hx; omega
 refine hK.out _ _ ⟨v0, v1, v2⟩ (fun hHeld => ?_)
 clear hK K
 try simp only [Act.put, qa, qb, qc, qD, qE, qF]
 refine qHr 16 rfl (fun K hK => ?_)
 try simp only [Act.put, qa, qb, qc, qD, qE, qF]
 go_simp
 generalize hW3 : (((w6.setCell ⟨w.heap.size, 0, none⟩ (.int .i64 b)).setCell ⟨w.heap.size, 1, none⟩ (.slice p1 s.length r1)).setCell ⟨w.heap.size, 2, none⟩ (.slice p2 t.length r2)) = w7 at *
 have Kw7 : Chg (w.heap.size) (w.heap.size + 1) w6 w7 := by subst hW3; exact qCh
 have Xw7 : Rch rb w w7 := by subst hW3; exact qRt
 replace Rw6 := (Rd.set2 (a := ⟨w.heap.size, 2, none⟩) (u := .slice p2 t.length r2) (show rb < w.heap.size by omega) (Rd.set2 (a := ⟨w.heap.size, 1, none⟩) (u := .slice p1 s.length r1) (show rb < w.heap.size by omega) (Rd.set2 (a := ⟨w.heap.size, 0, none⟩) (u := .int .i64 b) (show rb < w.heap.size by omega) Rw6)))
 rw [hW3] at Rw6
 replace q0 : w7.cell? ⟨w.heap.size, 0, none⟩ = some (.int .i64 b) := by subst hW3; go_simp
 replace f_q0 : w7.frozen? ⟨w.heap.size, 0, none⟩ = false := by subst hW3; first | (simp only [World.frozen?_setCell]; with_reducible assumption) | go_simp
 replace q1 : w7.cell? ⟨w.heap.size, 1, none⟩ = some (.slice p1 s.length r1) := by subst hW3; go_simp
 replace f_q1 : w7.frozen? ⟨w.heap.size, 1, none⟩ = false := by subst hW3; first | (simp only [World.frozen?_setCell]; with_reducible assumption) | go_simp
 replace q2 : w7.cell? ⟨w.heap.size, 2, none⟩ = some (.slice p2 t.length r2) := by subst hW3; go_simp
 replace f_q2 : w7.frozen? ⟨w.heap.size, 2, none⟩ = false := by subst hW3; first | (simp only [World.frozen?_setCell]; with_reducible assumption) | go_simp
 replace v0 := Kw7.cell (by omega) v0
 replace v1 := Kw7.cell (by omega) v1
 replace v2 := Kw7.cell (by omega) v2
 replace i1 := i1.chg Kw7 (by omega)
 replace i2 := i2.chg Kw7 (by omega)
 clear Kw7
 have z_q : w.heap.size < w7.heap.size := qB q0
 have z_v : w2.heap.size < w7.heap.size := qB v0
 have s_w7 : w.heap.size ≤ w7.heap.size := Xw7.size
 clear hW3
 refine hK.out _ _ ⟨v0, v1, v2⟩ (fun hHeld => ?_)
 clear hK K
 try simp only [Act.put, qa, qb, qc, qD, qE, qF]
 refine qHk (v := ?_) 17 rfl (.inl ⟨by rfl, ?_⟩) ?_
 rotate_left
 ·
  (intro w hSw; (try dsimp only at hSw); go_simp; try with_reducible rfl)
 try simp only [Act.put, qa, qb, qc, qD, qE, qF]
 refine wpAnyH_done qKr ?_ _
 clear hHeld hw0
 go_wp2_with fail
 refine bodyPost_ret (v := .tuple #[.agg #[.int .i64 b, .slice p1 s.length r1, .slice p2 t.length r2], .int .i64 x]) (by simp only [results, Try.results88]; go_simp) rfl ?_
 exact ⟨b, s, t, p1, p2, r1, r2, x, rfl, i1.lower (by omega), i2.lower (by omega), l1, l2, hx, Rw6.mono (by omega), Xw7⟩

/-- a view, a dimension and a number are drawn -/
def PVDI (w : World) (e : Ending) (w' : World) : Prop := ∃ (b : Int) (s t : List Int) (p1 p2 : Option Addr) (r1 r2 : Nat) (d x : Int), e = .returned (.tuple #[.agg #[.int .i64 b, .slice p1 s.length r1, .slice p2 t.length r2], .int .i64 d, .int .i64 x]) ∧
 Ints w' w.heap.size (.slice p1 s.length r1) s ∧ Ints w' w.heap.size (.slice p2 t.length r2) t ∧ s.length ≤ 4 ∧ t.length ≤ 5 ∧ (-1 ≤ d ∧ d ≤ 5) ∧ (-100 ≤ x ∧ x ≤ 100) ∧ Ext w w'
set_option maxHeartbeats 3200000 in
theorem drawPickDim_c (a : Option Addr) (n cap : Nat) (w : World) (hb : BysIn w a n cap) :
  Calls Try.prog 41 #[.slice a n cap] w (PVDI w) := by
 go_enter Try.func41, Try.ntmps41
 go_wp2_with fail
 refine (newReader_c a n cap _ (hb.ext qXt)).mono ?_
 rintro e w1 ⟨rfl, hr, xw1⟩
 have Lw1 : Ext w w1 := Ext.trans qXt xw1
 have Xw1 : Ext w w1 := Lw1
 have q0 : w1.cell? ⟨w.heap.size, 0, none⟩ = some (.int .i64 0) := xw1.cell qCl
 have q1 : w1.cell? ⟨w.heap.size, 1, none⟩ = some (.slice none 0 0) := xw1.cell qCl
 have q2 : w1.cell? ⟨w.heap.size, 2, none⟩ = some (.slice none 0 0) := xw1.cell qCl
 have f_q0 : w1.frozen? ⟨w.heap.size, 0, none⟩ = false := xw1.frz (by simp <;> omega) qFz
 have f_q1 : w1.frozen? ⟨w.heap.size, 1, none⟩ = false := xw1.frz (by simp <;> omega) qFz
 have f_q2 : w1.frozen? ⟨w.heap.size, 2, none⟩ = false := xw1.frz (by simp <;> omega) qFz
 have z_q : w.heap.size < w1.heap.size := qB q0
 have s_w1 : w.heap.size ≤ w1.heap.size := Xw1.size
 clear xw1
 simp only [World.size_alloc] at hr
 have z1 := hr.lt
 clear hb
 go_wp2_with fail
 refine (dimOf_c _ 0 _ hr (by omega)).mono ?_
 rintro e w2 ⟨b, s, t, p1, p2, r1, r2, d, rfl, i1, i2, l1, l2, hd, Rw2, Cw2⟩
 have zc_w2 := Cw2.size
 have Xw2 : Ext w w2 := Rch.toExt' Cw2 (by omega) (Xw1)
 replace q0 := Cw2.cell (by omega) q0
 replace f_q0 := Cw2.frzO (by omega) (by omega) f_q0
 replace q1 := Cw2.cell (by omega) q1
 replace f_q1 := Cw2.frzO (by omega) (by omega) f_q1
 replace q2 := Cw2.cell (by omega) q2
 replace f_q2 := Cw2.frzO (by omega) (by omega) f_q2
 have z_q : w.heap.size < w2.heap.size := qB q0
 have s_w2 : w.heap.size ≤ w2.heap.size := Xw2.size
 clear hr Cw2
 go_wp2_with fail
 generalize hW4 : w2.alloc (.cells #[.int .i64 b, .slice p1 s.length r1, .slice p2 t.length r2] 25) = w3 at *
 have Lw3 : Ext w2 w3 := by subst hW4; exact qXt
 have Xw3 : Ext w w3 := Xw2.trans Lw3
 replace Rw2 := Rw2.ext Lw3
 replace q0 := Lw3.cell q0
 replace q1 := Lw3.cell q1
 replace q2 := Lw3.cell q2
 replace f_q0 := Lw3.frz z_q f_q0
 replace f_q1 := Lw3.frz z_q f_q1
 replace f_q2 := Lw3.frz z_q f_q2
 have v0 : w3.cell? ⟨w2.heap.size, 0, none⟩ = some (.int .i64 b) := by subst hW4; exact qCl
 have v1 : w3.cell? ⟨w2.heap.size, 1, none⟩ = some (.slice p1 s.length r1) := by subst hW4; exact qCl
 have v2 : w3.cell? ⟨w2.heap.size, 2, none⟩ = some (.slice p2 t.length r2) := by subst hW4; exact qCl
 have z_q : w.heap.size < w3.heap.size := qB q0
 have z_v : w2.heap.size < w3.heap.size := qB v0
 replace i1 := i1.ext Lw3
 replace i2 := i2.ext Lw3
 have s_w3 : w.heap.size ≤ w3.heap.size := Xw3.size
 clear hW4
 go_wp2_with fail
 refine wp_region_held_drew (S := fun w' => w'.cell? ⟨w2.heap.size, 0, none⟩ = some (.int .i64 b) ∧ w'.cell? ⟨w2.heap.size, 1, none⟩ = some (.slice p1 s.length r1) ∧ w'.cell? ⟨w2.heap.size, 2, none⟩ = some (.slice p2 t.length r2)) qKr ⟨v0, v1, v2⟩ (fun hHeld => ?_)
 refine qHk (v := ?_) 0 rfl (.inl ⟨by rfl, ?_⟩) ?_
 rotate_left
 ·
  (intro w hSw; (try dsimp only at hSw); go_simp; try with_reducible rfl)
 try simp only [Act.put, qa, qb, qc, qD, qE, qF]
 refine qHk (v := ?_) 1 rfl (.inl ⟨by rfl, ?_⟩) ?_
 rotate_left
 ·
  (intro w hSw; (try dsimp only at hSw); go_simp; try with_reducible rfl)
 try simp only [Act.put, qa, qb, qc, qD, qE, qF]
 refine qHk (v := ?_) 2 rfl (.inl ⟨by rfl, ?_⟩) ?_
 rotate_left
 ·
  (intro w hSw; (try dsimp only at hSw); go_simp; try with_reducible rfl)
 try simp only [Act.put, qa, qb, qc, qD, qE, qF]
 refine qHr 3 rfl (fun K hK => ?_)
 try simp only [Act.put, qa, qb, qc, qD, qE, qF]
 go_simp
 skip
 refine hK.out _ _ ⟨(show Ext w3 _ from qXt).cell v0, (show Ext w3 _ from qXt).cell v1, (show Ext w3 _ from qXt).cell v2⟩ (fun hHeld => ?_)
 clear hK K
 try simp only [Act.put, qa, qb, qc, qD, qE, qF]
 refine qHr 4 rfl (fun K hK => ?_)
 try simp only [Act.put, qa, qb, qc, qD, qE, qF]
 go_simp
 refine (oneLit_c #[.int .i64 0, .int .i64 1, .int .i64 (-1), .int .i64 2, .int .i64 (-2), .int .i64 5] 6 _ _ _ w3.drew (Rw2.ext qXt) (by omega) (by rfl) (by rfl) (by constructor <;> simp) (by first | rfl | simp)).mono ?_
 rintro e w4 ⟨x, rfl, hx, Rw4, Cw4⟩
 have Ew4 : Ext w3 (w3.drew.alloc (.cells #[.int .i64 0, .int .i64 1, .int .i64 (-1), .int .i64 2, .int .i64 (-2), .int .i64 5] 3)) := qXt
 have e_w4 := Ew4.size
 have zc_w4 := Cw4.size
 simp only [World.size_drew, World.size_alloc] at zc_w4
 have Xw4 : Ext w w4 := Rch.toExt' Cw4 (by omega) (Xw3.trans Ew4)
 replace q0 := Cw4.cell (by omega) (Ew4.cell q0)
 replace f_q0 := Cw4.frzO (by omega) (by omega) (Ew4.frz z_q f_q0)
 replace q1 := Cw4.cell (by omega) (Ew4.cell q1)
 replace f_q1 := Cw4.frzO (by omega) (by omega) (Ew4.frz z_q f_q1)
 replace q2 := Cw4.cell (by omega) (Ew4.cell q2)
 replace f_q2 := Cw4.frzO (by omega) (by omega) (Ew4.frz z_q f_q2)
 replace v0 := Cw4.cell (by omega) (Ew4.cell v0)
 replace v1 := Cw4.cell (by omega) (Ew4.cell v1)
 replace v2 := Cw4.cell (by omega) (Ew4.cell v2)
 have z_q : w.heap.size < w4.heap.size := qB q0
 have z_v : w2.heap.size < w4.heap.size := qB v0
 replace i1 := (i1.ext Ew4).chg Cw4 (by omega)
 replace i2 := (i2.ext Ew4).chg Cw4 (by omega)
 have s_w4 : w.heap.size ≤ w4.heap.size := Xw4.size
 clear Rw2 Cw4 Ew4
 replace hx : -100 ≤ x ∧ x ≤ 100 := by simp [litL] at hx; omega
 refine hK.out _ _ ⟨v0, v1, v2⟩ (fun hHeld => ?_)
 clear hK K
 try simp only [Act.put, qa, qb, qc, qD, qE, qF]
 refine qHr 5 rfl (fun K hK => ?_)
 try simp only [Act.put, qa, qb, qc, qD, qE, qF]
 go_simp
 generalize hW5 : (((w4.setCell ⟨w.heap.size, 0, none⟩ (.int .i64 b)).setCell ⟨w.heap.size, 1, none⟩ (.slice p1 s.length r1)).setCell ⟨w.heap.size, 2, none⟩ (.slice p2 t.length r2)) = w5 at *
 have Kw5 : Chg (w.heap.size) (w.heap.size + 1) w4 w5 := by subst hW5; exact qCh
 have Xw5 : Ext w w5 := by subst hW5; exact qXt
 replace q0 : w5.cell? ⟨w.heap.size, 0, none⟩ = some (.int .i64 b) := by subst hW5; go_simp
 replace f_q0 : w5.frozen? ⟨w.heap.size, 0, none⟩ = false := by subst hW5; first | (simp only [World.frozen?_setCell]; with_reducible assumption) | go_simp
 replace q1 : w5.cell? ⟨w.heap.size, 1, none⟩ = some (.slice p1 s.length r1) := by subst hW5; go_simp
 replace f_q1 : w5.frozen? ⟨w.heap.size, 1, none⟩ = false := by subst hW5; first | (simp only [World.frozen?_setCell]; with_reducible assumption) | go_simp
 replace q2 : w5.cell? ⟨w.heap.size, 2, none⟩ = some (.slice p2 t.length r2) := by subst hW5; go_simp
 replace f_q2 : w5.frozen? ⟨w.heap.size, 2, none⟩ = false := by subst hW5; first | (simp only [World.frozen?_setCell]; with_reducible assumption) | go_simp
 replace v0 := Kw5.cell (by omega) v0
 replace v1 := Kw5.cell (by omega) v1
 replace v2 := Kw5.cell (by omega) v2
 replace i1 := i1.chg Kw5 (by omega)
 replace i2 := i2.chg Kw5 (by omega)
 clear Kw5
 have z_q : w.heap.size < w5.heap.size := qB q0
 have z_v : w2.heap.size < w5.heap.size := qB v0
 have s_w5 : w.heap.size ≤ w5.heap.size := Xw5.size
 clear hW5
 refine hK.out _ _ ⟨v0, v1, v2⟩ (fun hHeld => ?_)
 clear hK K
 try simp only [Act.put, qa, qb, qc, qD, qE, qF]
 refine qHk (v := ?_) 6 rfl (.inl ⟨by rfl, ?_⟩) ?_
 rotate_left
 ·
  (intro w hSw; (try dsimp only at hSw); go_simp; try with_reducible rfl)
 try simp only [Act.put, qa, qb, qc, qD, qE, qF]
 refine qHk (v := ?_) 7 rfl (.inl ⟨by rfl, ?_⟩) ?_
 rotate_left
 ·
  (intro w hSw; (try dsimp only at hSw); go_simp; try with_reducible rfl)
 try simp only [Act.put, qa, qb, qc, qD, qE, qF]
 refine wpAnyH_done qKr ?_ _
 clear hHeld
 go_wp2_with fail
 refine bodyPost_ret (v := .tuple #[.agg #[.int .i64 b, .slice p1 s.length r1, .slice p2 t.length r2], .int .i64 d, .int .i64 x]) (by simp only [results, Try.results41]; go_simp) rfl ?_
 exact ⟨b, s, t, p1, p2, r1, r2, d, x, rfl, i1.lower (by omega), i2.lower (by omega), l1, l2, hd, hx, Xw5⟩

end Go.Proofs.Ytonnnjaooifpjaa

/- Walks: a view, a dimension and a slice are drawn. -/
namespace Go.Proofs.Ytonnnjaooifpjaa
open Go.RowKit
set_option linter.unusedVariables false
set_option maxRecDepth 100000


/-- a view, a dimension and a slice are drawn -/
def PVDS (w : World) (e : Ending) (w' : World) : Prop := ∃ (b : Int) (s t : List Int) (p1 p2 : Option Addr) (r1 r2 : Nat) (d F T B : Int) (hf ht : Bool), e = .returned (.tuple #[.agg #[.int .i64 b, .slice p1 s.length r1, .slice p2 t.length r2], .int .i64 d, .agg #[.int .i64 F, .int .i64 T, .int .i64 B, .bool hf, .bool ht]]) ∧
  Ints w' w.heap.size (.slice p1 s.length r1) s ∧ Ints w' w.heap.size (.slice p2 t.length r2) t ∧ s.length ≤ 4 ∧ t.length ≤ 5 ∧ (-1 ≤ d ∧ d ≤ 5) ∧ Ext w w'
set_option maxHeartbeats 3200000 in
theorem drawSliceDim_c (a : Option Addr) (n cap : Nat) (w : World) (hb : BysIn w a n cap) :
    Calls Try.prog 48 #[.slice a n cap] w (PVDS w) := by
  go_enter Try.func48, Try.ntmps48
  go_wp2_with fail
  refine (newReader_c a n cap _ (hb.ext qXt)).mono ?_
  rintro e w1 ⟨rfl, hr, xw1⟩
  have Lw1 : Ext w w1 := Ext.trans qXt xw1
  have Xw1 : Ext w w1 := Lw1
  have q0 : w1.cell? ⟨w.heap.size, 0, none⟩ = some (.int .i64 0) := xw1.cell qCl
  have q1 : w1.cell? ⟨w.heap.size, 1, none⟩ = some (.slice none 0 0) := xw1.cell qCl
  have q2 : w1.cell? ⟨w.heap.size, 2, none⟩ = some (.slice none 0 0) := xw1.cell qCl
  have f_q0 : w1.frozen? ⟨w.heap.size, 0, none⟩ = false := xw1.frz (by simp <;> omega) qFz
  have f_q1 : w1.frozen? ⟨w.heap.size, 1, none⟩ = false := xw1.frz (by simp <;> omega) qFz
  have f_q2 : w1.frozen? ⟨w.heap.size, 2, none⟩ = false := xw1.frz (by simp <;> omega) qFz
  have q20 : w1.cell? ⟨(w.heap.size + 1), 0, none⟩ = some (.int .i64 0) := xw1.cell qCl
  have q21 : w1.cell? ⟨(w.heap.size + 1), 1, none⟩ = some (.int .i64 0) := xw1.cell qCl
  have q22 : w1.cell? ⟨(w.heap.size + 1), 2, none⟩ = some (.int .i64 0) := xw1.cell qCl
  have q23 : w1.cell? ⟨(w.heap.size + 1), 3, none⟩ = some (.bool false) := xw1.cell qCl
  have q24 : w1.cell? ⟨(w.heap.size + 1), 4, none⟩ = some (.bool false) := xw1.cell qCl
  have f_q20 : w1.frozen? ⟨(w.heap.size + 1), 0, none⟩ = false := xw1.frz (by simp <;> omega) qFz
  have f_q21 : w1.frozen? ⟨(w.heap.size + 1), 1, none⟩ = false := xw1.frz (by simp <;> omega) qFz
  have f_q22 : w1.frozen? ⟨(w.heap.size + 1), 2, none⟩ = false := xw1.frz (by simp <;> omega) qFz
  have f_q23 : w1.frozen? ⟨(w.heap.size + 1), 3, none⟩ = false := xw1.frz (by simp <;> omega) qFz
  have f_q24 : w1.frozen? ⟨(w.heap.size + 1), 4, none⟩ = false := xw1.frz (by simp <;> omega) qFz
  have z_q : w.heap.size < w1.heap.size := qB q0
  have z_q2 : (w.heap.size + 1) < w1.heap.size := qB q20
  have s_w1 : w.heap.size ≤ w1.heap.size := Xw1.size
  clear xw1
  simp only [World.size_alloc] at hr
  have z1 := hr.lt
  clear hb
  go_wp2_with fail
  refine (dimOf_c _ 0 _ hr (by omega)).mono ?_
  rintro e w2 ⟨b, s, t, p1, p2, r1, r2, d, rfl, i1, i2, l1, l2, hd, Rw2, Cw2⟩
  have zc_w2 := Cw2.size
  have Xw2 : Ext w w2 := Rch.toExt' Cw2 (by omega) (Xw1)
  replace q0 := Cw2.cell (by omega) q0
  replace f_q0 := Cw2.frzO (by omega) (by omega) f_q0
  replace q1 := Cw2.cell (by omega) q1
  replace f_q1 := Cw2.frzO (by omega) (by omega) f_q1
  replace q2 := Cw2.cell (by omega) q2
  replace f_q2 := Cw2.frzO (by omega) (by omega) f_q2
  replace q20 := Cw2.cell (by omega) q20
  replace f_q20 := Cw2.frzO (by omega) (by omega) f_q20
  replace q21 := Cw2.cell (by omega) q21
  replace f_q21 := Cw2.frzO (by omega) (by omega) f_q21
  replace q22 := Cw2.cell (by omega) q22
  replace f_q22 := Cw2.frzO (by omega) (by omega) f_q22
  replace q23 := Cw2.cell (by omega) q23
  replace f_q23 := Cw2.frzO (by omega) (by omega) f_q23
  replace q24 := Cw2.cell (by omega) q24
  replace f_q24 := Cw2.frzO (by omega) (by omega) f_q24
  have z_q : w.heap.size < w2.heap.size := qB q0
  have z_q2 : (w.heap.size + 1) < w2.heap.size := qB q20
  have s_w2 : w.heap.size ≤ w2.heap.size := Xw2.size
  clear hr Cw2
  go_wp2_with fail
  generalize hW1 : w2.alloc (.cells #[.int .i64 b, .slice p1 s.length r1, .slice p2 t.length r2] 25) = w3 at *
  have Lw3 : Ext w2 w3 := by subst hW1; exact qXt
  have Xw3 : Ext w w3 := Xw2.trans Lw3
  replace Rw2 := Rw2.ext Lw3
  replace q0 := Lw3.cell q0
  replace q1 := Lw3.cell q1
  replace q2 := Lw3.cell q2
  replace f_q0 := Lw3.frz z_q f_q0
  replace f_q1 := Lw3.frz z_q f_q1
  replace f_q2 := Lw3.frz z_q f_q2
  replace q20 := Lw3.cell q20
  replace q21 := Lw3.cell q21
  replace q22 := Lw3.cell q22
  replace q23 := Lw3.cell q23
  replace q24 := Lw3.cell q24
  replace f_q20 := Lw3.frz z_q2 f_q20
  replace f_q21 := Lw3.frz z_q2 f_q21
  replace f_q22 := Lw3.frz z_q2 f_q22
  replace f_q23 := Lw3.frz z_q2 f_q23
  replace f_q24 := Lw3.frz z_q2 f_q24
  have v0 : w3.cell? ⟨w2.heap.size, 0, none⟩ = some (.int .i64 b) := by subst hW1; exact qCl
  have v1 : w3.cell? ⟨w2.heap.size, 1, none⟩ = some (.slice p1 s.length r1) := by subst hW1; exact qCl
  have v2 : w3.cell? ⟨w2.heap.size, 2, none⟩ = some (.slice p2 t.length r2) := by subst hW1; exact qCl
  have z_q : w.heap.size < w3.heap.size := qB q0
  have z_q2 : (w.heap.size + 1) < w3.heap.size := qB q20
  have z_v : w2.heap.size < w3.heap.size := qB v0
  replace i1 := i1.ext Lw3
  replace i2 := i2.ext Lw3
  have s_w3 : w.heap.size ≤ w3.heap.size := Xw3.size
  clear hW1
  go_wp2_with fail
  refine wp_region_held_drew (S := fun w' => w'.cell? ⟨w2.heap.size, 0, none⟩ = some (.int .i64 b) ∧ w'.cell? ⟨w2.heap.size, 1, none⟩ = some (.slice p1 s.length r1) ∧ w'.cell? ⟨w2.heap.size, 2, none⟩ = some (.slice p2 t.length r2)) qKr ⟨v0, v1, v2⟩ (fun hHeld => ?_)
  refine qHk (v := ?_) 0 rfl (.inl ⟨by rfl, ?_⟩) ?_
  rotate_left
  · (intro w hSw; (try dsimp only at hSw); go_simp; try with_reducible rfl)
  try simp only [Act.put, qa, qb, qc, qD, qE, qF]
  refine qHk (v := ?_) 1 rfl (.inl ⟨by rfl, ?_⟩) ?_
  rotate_left
  · (intro w hSw; (try dsimp only at hSw); go_simp; try with_reducible rfl)
  try simp only [Act.put, qa, qb, qc, qD, qE, qF]
  refine qHk (v := ?_) 2 rfl (.inl ⟨by rfl, ?_⟩) ?_
  rotate_left
  · (intro w hSw; (try dsimp only at hSw); go_simp; try with_reducible rfl)
  try simp only [Act.put, qa, qb, qc, qD, qE, qF]
  refine qHr 3 rfl (fun K hK => ?_)
  try simp only [Act.put, qa, qb, qc, qD, qE, qF]
  go_simp
  refine (someSlice_c _ _ _ (Rw2.ext qXt) (by omega)).mono ?_
  rintro e w4 ⟨F, T, B, hf, ht, rfl, Rw4, Cw4⟩
  have Ew4 : Ext w3 (w3.drew) := qXt
  have e_w4 := Ew4.size
  have zc_w4 := Cw4.size
  simp only [World.size_drew, World.size_alloc] at zc_w4
  have Xw4 : Ext w w4 := Rch.toExt' Cw4 (by omega) (Xw3.trans Ew4)
  replace q0 := Cw4.cell (by omega) (Ew4.cell q0)
  replace f_q0 := Cw4.frzO (by omega) (by omega) (Ew4.frz z_q f_q0)
  replace q1 := Cw4.cell (by omega) (Ew4.cell q1)
  replace f_q1 := Cw4.frzO (by omega) (by omega) (Ew4.frz z_q f_q1)
  replace q2 := Cw4.cell (by omega) (Ew4.cell q2)
  replace f_q2 := Cw4.frzO (by omega) (by omega) (Ew4.frz z_q f_q2)
  replace q20 := Cw4.cell (by omega) (Ew4.cell q20)
  replace f_q20 := Cw4.frzO (by omega) (by omega) (Ew4.frz z_q2 f_q20)
  replace q21 := Cw4.cell (by omega) (Ew4.cell q21)
  replace f_q21 := Cw4.frzO (by omega) (by omega) (Ew4.frz z_q2 f_q21)
  replace q22 := Cw4.cell (by omega) (Ew4.cell q22)
  replace f_q22 := Cw4.frzO (by omega) (by omega) (Ew4.frz z_q2 f_q22)
  replace q23 := Cw4.cell (by omega) (Ew4.cell q23)
  replace f_q23 := Cw4.frzO (by omega) (by omega) (Ew4.frz z_q2 f_q23)
  replace q24 := Cw4.cell (by omega) (Ew4.cell q24)
  replace f_q24 := Cw4.frzO (by omega) (by omega) (Ew4.frz z_q2 f_q24)
  replace v0 := Cw4.cell (by omega) (Ew4.cell v0)
  replace v1 := Cw4.cell (by omega) (Ew4.cell v1)
  replace v2 := Cw4.cell (by omega) (Ew4.cell v2)
  have z_q : w.heap.size < w4.heap.size := qB q0
  have z_q2 : (w.heap.size + 1) < w4.heap.size := qB q20
  have z_v : w2.heap.size < w4.heap.size := qB v0
  replace i1 := (i1.ext Ew4).chg Cw4 (by omega)
  replace i2 := (i2.ext Ew4).chg Cw4 (by omega)
  have s_w4 : w.heap.size ≤ w4.heap.size := Xw4.size
  clear Rw2 Cw4 Ew4
  refine hK.out _ _ ⟨v0, v1, v2⟩ (fun hHeld => ?_)
  clear hK K
  try simp only [Act.put, qa, qb, qc, qD, qE, qF]
  refine qHr 4 rfl (fun K hK => ?_)
  try simp only [Act.put, qa, qb, qc, qD, qE, qF]
  go_simp
  generalize hW2 : (((w4.setCell ⟨w.heap.size, 0, none⟩ (.int .i64 b)).setCell ⟨w.heap.size, 1, none⟩ (.slice p1 s.length r1)).setCell ⟨w.heap.size, 2, none⟩ (.slice p2 t.length r2)) = w5 at *
  have Kw5 : Chg (w.heap.size) (w.heap.size + 1) w4 w5 := by subst hW2; exact qCh
  have Xw5 : Ext w w5 := by subst hW2; exact qXt
  replace q0 : w5.cell? ⟨w.heap.size, 0, none⟩ = some (.int .i64 b) := by subst hW2; go_simp
  replace f_q0 : w5.frozen? ⟨w.heap.size, 0, none⟩ = false := by subst hW2; first | (simp only [World.frozen?_setCell]; with_reducible assumption) | go_simp
  replace q1 : w5.cell? ⟨w.heap.size, 1, none⟩ = some (.slice p1 s.length r1) := by subst hW2; go_simp
  replace f_q1 : w5.frozen? ⟨w.heap.size, 1, none⟩ = false := by subst hW2; first | (simp only [World.frozen?_setCell]; with_reducible assumption) | go_simp
  replace q2 : w5.cell? ⟨w.heap.size, 2, none⟩ = some (.slice p2 t.length r2) := by subst hW2; go_simp
  replace f_q2 : w5.frozen? ⟨w.heap.size, 2, none⟩ = false := by subst hW2; first | (simp only [World.frozen?_setCell]; with_reducible assumption) | go_simp
  replace q20 := Kw5.cell (by omega) q20
  replace f_q20 := Kw5.frzO (by omega) z_q2 f_q20
  replace q21 := Kw5.cell (by omega) q21
  replace f_q21 := Kw5.frzO (by omega) z_q2 f_q21
  replace q22 := Kw5.cell (by omega) q22
  replace f_q22 := Kw5.frzO (by omega) z_q2 f_q22
  replace q23 := Kw5.cell (by omega) q23
  replace f_q23 := Kw5.frzO (by omega) z_q2 f_q23
  replace q24 := Kw5.cell (by omega) q24
  replace f_q24 := Kw5.frzO (by omega) z_q2 f_q24
  replace v0 := Kw5.cell (by omega) v0
  replace v1 := Kw5.cell (by omega) v1
  replace v2 := Kw5.cell (by omega) v2
  replace i1 := i1.chg Kw5 (by omega)
  replace i2 := i2.chg Kw5 (by omega)
  clear Kw5
  have z_q : w.heap.size < w5.heap.size := qB q0
  have z_q2 : (w.heap.size + 1) < w5.heap.size := qB q20
  have z_v : w2.heap.size < w5.heap.size := qB v0
  have s_w5 : w.heap.size ≤ w5.heap.size := Xw5.size
  clear hW2
  refine hK.out _ _ ⟨v0, v1, v2⟩ (fun hHeld => ?_)
  clear hK K
  try simp only [Act.put, qa, qb, qc, qD, qE, qF]
  refine qHk (v := ?_) 5 rfl (.inl ⟨by rfl, ?_⟩) ?_
  rotate_left
  · (intro w hSw; (try dsimp only at hSw); go_simp; try with_reducible rfl)
  try simp only [Act.put, qa, qb, qc, qD, qE, qF]
  refine qHr 6 rfl (fun K hK => ?_)
  try simp only [Act.put, qa, qb, qc, qD, qE, qF]
  go_simp
  generalize hW3 : (((((w5.setCell ⟨(w.heap.size + 1), 0, none⟩ (.int .i64 F)).setCell ⟨(w.heap.size + 1), 1, none⟩ (.int .i64 T)).setCell ⟨(w.heap.size + 1), 2, none⟩ (.int .i64 B)).setCell ⟨(w.heap.size + 1), 3, none⟩ (.bool hf)).setCell ⟨(w.heap.size + 1), 4, none⟩ (.bool ht)) = w6 at *
  have Kw6 : Chg ((w.heap.size + 1)) ((w.heap.size + 1) + 1) w5 w6 := by subst hW3; exact qCh
  have Xw6 : Ext w w6 := by subst hW3; exact qXt
  replace q0 := Kw6.cell (by omega) q0
  replace f_q0 := Kw6.frzO (by omega) z_q f_q0
  replace q1 := Kw6.cell (by omega) q1
  replace f_q1 := Kw6.frzO (by omega) z_q f_q1
  replace q2 := Kw6.cell (by omega) q2
  replace f_q2 := Kw6.frzO (by omega) z_q f_q2
  replace q20 : w6.cell? ⟨(w.heap.size + 1), 0, none⟩ = some (.int .i64 F) := by subst hW3; go_simp
  replace f_q20 : w6.frozen? ⟨(w.heap.size + 1), 0, none⟩ = false := by subst hW3; first | (simp only [World.frozen?_setCell]; with_reducible assumption) | go_simp
  replace q21 : w6.cell? ⟨(w.heap.size + 1), 1, none⟩ = some (.int .i64 T) := by subst hW3; go_simp
  replace f_q21 : w6.frozen? ⟨(w.heap.size + 1), 1, none⟩ = false := by subst hW3; first | (simp only [World.frozen?_setCell]; with_reducible assumption) | go_simp
  replace q22 : w6.cell? ⟨(w.heap.size + 1), 2, none⟩ = some (.int .i64 B) := by subst hW3; go_simp
  replace f_q22 : w6.frozen? ⟨(w.heap.size + 1), 2, none⟩ = false := by subst hW3; first | (simp only [World.frozen?_setCell]; with_reducible assumption) | go_simp
  replace q23 : w6.cell? ⟨(w.heap.size + 1), 3, none⟩ = some (.bool hf) := by subst hW3; go_simp
  replace f_q23 : w6.frozen? ⟨(w.heap.size + 1), 3, none⟩ = false := by subst hW3; first | (simp only [World.frozen?_setCell]; with_reducible assumption) | go_simp
  replace q24 : w6.cell? ⟨(w.heap.size + 1), 4, none⟩ = some (.bool ht) := by subst hW3; go_simp
  replace f_q24 : w6.frozen? ⟨(w.heap.size + 1), 4, none⟩ = false := by subst hW3; first | (simp only [World.frozen?_setCell]; with_reducible assumption) | go_simp
  replace v0 := Kw6.cell (by omega) v0
  replace v1 := Kw6.cell (by omega) v1
  replace v2 := Kw6.cell (by omega) v2
  replace i1 := i1.chg Kw6 (by omega)
  replace i2 := i2.chg Kw6 (by omega)
  clear Kw6
  have z_q : w.heap.size < w6.heap.size := qB q0
  have z_q2 : (w.heap.size + 1) < w6.heap.size := qB q20
  have z_v : w2.heap.size < w6.heap.size := qB v0
  have s_w6 : w.heap.size ≤ w6.heap.size := Xw6.size
  clear hW3
  refine hK.out _ _ ⟨v0, v1, v2⟩ (fun hHeld => ?_)
  clear hK K
  try simp only [Act.put, qa, qb, qc, qD, qE, qF]
  refine wpAnyH_done qKr ?_ _
  clear hHeld
  go_wp2_with fail
  refine bodyPost_ret (v := .tuple #[.agg #[.int .i64 b, .slice p1 s.length r1, .slice p2 t.length r2], .int .i64 d, .agg #[.int .i64 F, .int .i64 T, .int .i64 B, .bool hf, .bool ht]]) (by simp only [results, Try.results48]; go_simp) rfl ?_
  exact ⟨b, s, t, p1, p2, r1, r2, d, F, T, B, hf, ht, rfl, i1.lower (by omega), i2.lower (by omega), l1, l2, hd, Xw6⟩

end Go.Proofs.Ytonnnjaooifpjaa

/- Walks: rows, sums. -/
namespace Go.Proofs.Ytonnnjaooifpjaa
open Go.RowKit
set_option linter.unusedVariables false
set_option maxRecDepth 100000

end Go.Proofs.Ytonnnjaooifpjaa

/- Walks: PermuteDims of the program. -/
namespace Go.Proofs.Ytonnnjaooifpjaa
open Go.RowKit
set_option linter.unusedVariables false
set_option maxRecDepth 100000


def OrdTo (ord : List Int) (n k : Nat) : Prop := (∀ x ∈ ord.take k, 0 ≤ x ∧ x < n) ∧ (ord.take k).Nodup
theorem take_snoc (l : List Int) (k : Nat) (h : k < l.length) : l.take (k+1) = l.take k ++ [l.getD k 0] := by
 rw [List.take_succ_eq_append_getElem h]; simp [h]
theorem OrdTo.zero (ord : List Int) (n : Nat) : OrdTo ord n 0 := ⟨by simp, by simp⟩
theorem OrdTo.succ {ord : List Int} {n k : Nat} (h : OrdTo ord n k) (hk : k < ord.length) {x : Int} (hx : ord.getD k 0 = x) (h1 : 0 ≤ x ∧ x < n) (h2 : hasB (ord.take k) x = false) : OrdTo ord n (k+1) := by
 unfold OrdTo
 rw [take_snoc ord k hk, hx]
 refine ⟨fun y hy => ?_, ?_⟩
 ·
  rcases List.mem_append.1 hy with hy | hy
  ·
   exact h.1 y hy
  ·
   simp at hy; subst hy; exact h1
 ·
  rw [List.nodup_append]
  refine ⟨h.2, by simp, fun y hy z hz e => ?_⟩
  simp at hz; subst hz; subst e
  unfold hasB at h2
  have := List.contains_iff_mem.2 hy
  rw [h2] at this; cases this
theorem ord_yes {ord : List Int} {n : Nat} (hl : ord.length = n) (h : OrdTo ord n ord.length) : orderB ord n = true := by
 unfold OrdTo at h
 rw [List.take_length] at h
 unfold orderB
 simp only [Bool.and_eq_true, decide_eq_true_eq, List.all_eq_true, inB]
 exact ⟨by omega, fun x hx => by have := h.1 x hx; omega, h.2⟩
theorem ord_no {ord : List Int} {n k : Nat} (hk : k < ord.length) {x : Int} (hx : ord.getD k 0 = x) (h : x < 0 ∨ (n : Int) ≤ x ∨ hasB (ord.take k) x = true) : orderB ord n = false := by
 cases hb : orderB ord n with
 | false => rfl
 | true =>
  obtain ⟨h1, h2, h3⟩ := orderB_in hb
  have hm : x ∈ ord := hx ▸ getD_mem hk
  have := h2 x hm
  rcases h with h | h | h
  ·
   omega
  ·
   omega
  ·
   unfold hasB at h
   have h4 := List.contains_iff_mem.1 h
   have h5 : (ord.take (k+1)).Nodup := h3.sublist (List.take_sublist _ _)
   rw [take_snoc ord k hk, hx, List.nodup_append] at h5
   exact absurd rfl (h5.2.2 x h4 x (by simp))
theorem ord_len {ord : List Int} {n : Nat} (h : ¬ (ord.length : Int) = n) : orderB ord n = false := by
 unfold orderB; simp [h]

set_option maxHeartbeats 3200000 in
theorem implPermuteDims_c (b1 : Int) (u1 v1 : Value) (s1 t1 : List Int) (v3 : Value) (ord : List Int) (w : World) (l1 m1 : Nat) (h1 : Ints w l1 u1 s1) (k1 : Ints w m1 v1 t1) (l3 : Nat) (h3 : Ints w l3 v3 ord) :
  Calls Try.prog 19 #[.agg #[.int .i64 b1, u1, v1], v3] w (PVB w (permV b1 s1 t1 ord)) := by
 obtain ⟨p0, c0, rfl⟩ := h1.form
 obtain ⟨p1, c1, rfl⟩ := k1.form
 obtain ⟨p2, c2, rfl⟩ := h3.form
 go_enter Try.func19, Try.ntmps19
 go_wp2_with fail
 refine (isView_c b1 (.slice p0 s1.length c0) (.slice p1 t1.length c1) s1 t1 _ _ _ (h1.ext qXt) (k1.ext qXt)).mono ?_
 rintro e w1 ⟨rfl, xw1⟩
 have Lw1 : Ext w w1 := Ext.trans qXt xw1
 have Xw1 : Ext w w1 := Lw1
 have b10 : w1.cell? ⟨w.heap.size, 0, none⟩ = some (.int .i64 b1) := xw1.cell qCl
 have b11 : w1.cell? ⟨w.heap.size, 1, none⟩ = some (.slice p0 s1.length c0) := xw1.cell qCl
 have b12 : w1.cell? ⟨w.heap.size, 2, none⟩ = some (.slice p1 t1.length c1) := xw1.cell qCl
 have b20 : w1.cell? ⟨w.heap.size + 1, 0, none⟩ = some (.int .i64 0) := xw1.cell qCl
 have b21 : w1.cell? ⟨w.heap.size + 1, 1, none⟩ = some (.slice none 0 0) := xw1.cell qCl
 have b22 : w1.cell? ⟨w.heap.size + 1, 2, none⟩ = some (.slice none 0 0) := xw1.cell qCl
 have f_b20 : w1.frozen? ⟨w.heap.size + 1, 0, none⟩ = false := xw1.frz (by simp <;> omega) qFz
 have f_b21 : w1.frozen? ⟨w.heap.size + 1, 1, none⟩ = false := xw1.frz (by simp <;> omega) qFz
 have f_b22 : w1.frozen? ⟨w.heap.size + 1, 2, none⟩ = false := xw1.frz (by simp <;> omega) qFz
 have z_b1 : w.heap.size < w1.heap.size := qB b10
 have z_b2 : w.heap.size + 1 < w1.heap.size := qB b20
 have s_w1 : w.heap.size ≤ w1.heap.size := Xw1.size
 clear xw1
 cases hB3 : viewB b1 s1 t1
 ·
  replace hB3 := Lib.hid hB3
  go_wp2_with fail
  generalize hW1 : (((w1.setCell ⟨w.heap.size + 1, 0, none⟩ (.int .i64 0)).setCell ⟨w.heap.size + 1, 1, none⟩ (.slice none 0 0)).setCell ⟨w.heap.size + 1, 2, none⟩ (.slice none 0 0)) = w2 at *
  have Kw2 : Chg (w.heap.size + 1) (w.heap.size + 1 + 1) w1 w2 := by subst hW1; exact qCh
  have Xw2 : Ext w w2 := by subst hW1; exact qXt
  replace b10 := Kw2.cell (by omega) b10
  replace b11 := Kw2.cell (by omega) b11
  replace b12 := Kw2.cell (by omega) b12
  replace b20 : w2.cell? ⟨w.heap.size + 1, 0, none⟩ = some (.int .i64 0) := by subst hW1; go_simp
  replace f_b20 : w2.frozen? ⟨w.heap.size + 1, 0, none⟩ = false := by subst hW1; go_simp
  replace b21 : w2.cell? ⟨w.heap.size + 1, 1, none⟩ = some (.slice none 0 0) := by subst hW1; go_simp
  replace f_b21 : w2.frozen? ⟨w.heap.size + 1, 1, none⟩ = false := by subst hW1; go_simp
  replace b22 : w2.cell? ⟨w.heap.size + 1, 2, none⟩ = some (.slice none 0 0) := by subst hW1; go_simp
  replace f_b22 : w2.frozen? ⟨w.heap.size + 1, 2, none⟩ = false := by subst hW1; go_simp
  clear Kw2
  have z_b1 : w.heap.size < w2.heap.size := qB b10
  have z_b2 : w.heap.size + 1 < w2.heap.size := qB b20
  have s_w2 : w.heap.size ≤ w2.heap.size := Xw2.size
  clear hW1
  refine bodyPost_ret (v := .tuple #[.agg #[.int .i64 0, .slice none 0 0, .slice none 0 0], .bool false]) (by simp only [results, Try.results19]; go_simp) rfl ?_
  rw [show permV b1 s1 t1 ord = noV by unfold permV; rw [hB3.out, Bool.false_and] <;> rfl]
  exact PViewB.no (Xw2.trans qXt)
 ·
  replace hB3 := Lib.hid hB3
  by_cases hc4 : (ord.length : Int) = (s1.length : Int)
  ·
   have hc4e : ((ord.length : Int) == (s1.length : Int)) = true := by simpa using hc4
   have hc4n : ((ord.length : Int) != (s1.length : Int)) = false := by simpa using hc4
   replace hc4 := Lib.hid hc4
   go_wp2_with fail
   generalize hW2 : w1.alloc (.cells #[.int .i64 b1, .slice none 0 0, .slice none 0 0] 25) = w2 at *
   have Lw2 : Ext w1 w2 := by subst hW2; exact qXt
   have Xw2 : Ext w w2 := Xw1.trans Lw2
   replace b10 := Lw2.cell b10
   replace b11 := Lw2.cell b11
   replace b12 := Lw2.cell b12
   replace b20 := Lw2.cell b20
   replace b21 := Lw2.cell b21
   replace b22 := Lw2.cell b22
   replace f_b20 := Lw2.frz z_b2 f_b20
   replace f_b21 := Lw2.frz z_b2 f_b21
   replace f_b22 := Lw2.frz z_b2 f_b22
   have b50 : w2.cell? ⟨w1.heap.size, 0, none⟩ = some (.int .i64 b1) := by subst hW2; exact qCl
   have b51 : w2.cell? ⟨w1.heap.size, 1, none⟩ = some (.slice none 0 0) := by subst hW2; exact qCl
   have b52 : w2.cell? ⟨w1.heap.size, 2, none⟩ = some (.slice none 0 0) := by subst hW2; exact qCl
   have f_b50 : w2.frozen? ⟨w1.heap.size, 0, none⟩ = false := by subst hW2; exact qFz
   have f_b51 : w2.frozen? ⟨w1.heap.size, 1, none⟩ = false := by subst hW2; exact qFz
   have f_b52 : w2.frozen? ⟨w1.heap.size, 2, none⟩ = false := by subst hW2; exact qFz
   have z_b1 : w.heap.size < w2.heap.size := qB b10
   have z_b2 : w.heap.size + 1 < w2.heap.size := qB b20
   have z_b5 : w1.heap.size < w2.heap.size := qB b50
   have s_w2 : w.heap.size ≤ w2.heap.size := Xw2.size
   clear hW2
   have hol : ord.length ≤ 4 := by have := (vw hB3.out).2.2.2.1; have := hc4.out; omega
   have hst : s1.length ≤ t1.length := (vw hB3.out).1
   have hos : ord.length = s1.length := by have := hc4.out; omega
   replace hos := Lib.hid hos
   have yE_b1 := z_b1
   have yE_b2 := z_b2
   have yE_b5 := z_b5
   go_loopw [7, 8, 26] (fun x y i wr => ∃ (k : Nat) (pr1 pr2 : Value), k ≤ ord.length ∧ i = .int .i64 k ∧ Hid (OrdTo ord s1.length k) ∧ Two (w2.heap.size) wr pr1 pr2 (takL s1 (ord.take k)) (takL t1 (ord.take k)) ∧ Ext w wr ∧ wr.cell? ⟨w.heap.size, 0, none⟩ = some (.int .i64 b1) ∧ wr.cell? ⟨w.heap.size, 1, none⟩ = some (.slice p0 s1.length c0) ∧ wr.cell? ⟨w.heap.size, 2, none⟩ = some (.slice p1 t1.length c1) ∧ wr.cell? ⟨w.heap.size + 1, 0, none⟩ = some (.int .i64 0) ∧ wr.cell? ⟨w.heap.size + 1, 1, none⟩ = some (.slice none 0 0) ∧ wr.cell? ⟨w.heap.size + 1, 2, none⟩ = some (.slice none 0 0) ∧ wr.frozen? ⟨w.heap.size + 1, 0, none⟩ = false ∧ wr.frozen? ⟨w.heap.size + 1, 1, none⟩ = false ∧ wr.frozen? ⟨w.heap.size + 1, 2, none⟩ = false ∧ wr.cell? ⟨w1.heap.size, 0, none⟩ = some (.int .i64 b1) ∧ wr.cell? ⟨w1.heap.size, 1, none⟩ = some (pr1) ∧ wr.cell? ⟨w1.heap.size, 2, none⟩ = some (pr2) ∧ wr.frozen? ⟨w1.heap.size, 0, none⟩ = false ∧ wr.frozen? ⟨w1.heap.size, 1, none⟩ = false ∧ wr.frozen? ⟨w1.heap.size, 2, none⟩ = false) (fun x y i _ => ord.length - (intOf i).toNat)
   case atStart => exact ⟨0, _, _, Nat.zero_le _, rfl, Lib.hid (OrdTo.zero _ _), by simpa [takL] using Two.nil (by omega), (Xw2.trans qXt), b10, b11, b12, b20, b21, b22, f_b20, f_b21, f_b22, b50, b51, b52, f_b50, f_b51, f_b52⟩
   case round =>
    obtain ⟨k, pr1, pr2, hk, rfl, hok, T, Xr, b10, b11, b12, b20, b21, b22, f_b20, f_b21, f_b22, b50, b51, b52, f_b50, f_b51, f_b52⟩ := hrel
    have hTs := T.size
    have z_b1 : w.heap.size < wr.heap.size := qB b10
    have z_b2 : w.heap.size + 1 < wr.heap.size := qB b20
    have z_b5 : w1.heap.size < wr.heap.size := qB b50
    by_cases hlt : k < ord.length
    ·
     have hkI : (k : Int) < ord.length := by omega
     have hs1 := takL_take s1 ord k hlt
     have hs2 := takL_take t1 ord k hlt
     rw [← getD_get hlt] at hs1 hs2
     have tl1 : (takL s1 (ord.take k)).length = k := by rw [takL_len, List.length_take]; omega
     have tl2 : (takL t1 (ord.take k)).length = k := by rw [takL_len, List.length_take]; omega
     replace tl1 := Lib.hid tl1
     replace tl2 := Lib.hid tl2
     have hN_e8 : k < ord.length := (by omega)
     have hI_e8 : (k : Int) < (ord.length : Int) := by omega
     obtain ⟨bl6, ol7, rfl, e80⟩ := h3.at k (by omega)
     have y_e8 : bl6 < w.heap.size := qB e80
     replace e80 := Xr.cell e80
     obtain ⟨v9, hv9⟩ : ∃ v, ord.getD k 0 = v := ⟨_, rfl⟩
     rw [hv9] at e80
     replace hv9 := Lib.hid hv9
     have z_e8 : bl6 < wr.heap.size := qB e80
     by_cases hc10 : (v9 : Int) < (0 : Int)
     ·
      go_wp2_with fail
      generalize hW3 : (((wr.setCell ⟨w.heap.size + 1, 0, none⟩ (.int .i64 0)).setCell ⟨w.heap.size + 1, 1, none⟩ (.slice none 0 0)).setCell ⟨w.heap.size + 1, 2, none⟩ (.slice none 0 0)) = w3 at *
      have Kw3 : Chg (w.heap.size + 1) (w.heap.size + 1 + 1) wr w3 := by subst hW3; exact qCh
      have Xw3 : Ext w w3 := by subst hW3; exact qXt
      replace b10 := Kw3.cell (by omega) b10
      replace b11 := Kw3.cell (by omega) b11
      replace b12 := Kw3.cell (by omega) b12
      replace b20 : w3.cell? ⟨w.heap.size + 1, 0, none⟩ = some (.int .i64 0) := by subst hW3; go_simp
      replace f_b20 : w3.frozen? ⟨w.heap.size + 1, 0, none⟩ = false := by subst hW3; go_simp
      replace b21 : w3.cell? ⟨w.heap.size + 1, 1, none⟩ = some (.slice none 0 0) := by subst hW3; go_simp
      replace f_b21 : w3.frozen? ⟨w.heap.size + 1, 1, none⟩ = false := by subst hW3; go_simp
      replace b22 : w3.cell? ⟨w.heap.size + 1, 2, none⟩ = some (.slice none 0 0) := by subst hW3; go_simp
      replace f_b22 : w3.frozen? ⟨w.heap.size + 1, 2, none⟩ = false := by subst hW3; go_simp
      replace b50 := Kw3.cell (by omega) b50
      replace f_b50 := Kw3.frzO (by omega) z_b5 f_b50
      replace b51 := Kw3.cell (by omega) b51
      replace f_b51 := Kw3.frzO (by omega) z_b5 f_b51
      replace b52 := Kw3.cell (by omega) b52
      replace f_b52 := Kw3.frzO (by omega) z_b5 f_b52
      replace e80 := Kw3.cell (by omega) e80
      replace T := T.chg Kw3 (by omega)
      clear Kw3
      have z_b1 : w.heap.size < w3.heap.size := qB b10
      have z_b2 : w.heap.size + 1 < w3.heap.size := qB b20
      have z_b5 : w1.heap.size < w3.heap.size := qB b50
      have z_e8 : bl6 < w3.heap.size := qB e80
      have s_w3 : w.heap.size ≤ w3.heap.size := Xw3.size
      clear hW3
      refine bodyPost_ret (v := .tuple #[.agg #[.int .i64 0, .slice none 0 0, .slice none 0 0], .bool false]) (by simp only [results, Try.results19]; go_simp) rfl ?_
      rw [show permV b1 s1 t1 ord = noV by unfold permV; rw [hB3.out, ord_no hlt hv9.out (by have := hc4.out; omega), Bool.and_false] <;> rfl]
      exact PViewB.no (Xw3.trans qXt)
     ·
      by_cases hc11 : (ord.length : Int) ≤ (v9 : Int)
      ·
       go_wp2_with fail
       generalize hW4 : (((wr.setCell ⟨w.heap.size + 1, 0, none⟩ (.int .i64 0)).setCell ⟨w.heap.size + 1, 1, none⟩ (.slice none 0 0)).setCell ⟨w.heap.size + 1, 2, none⟩ (.slice none 0 0)) = w3 at *
       have Kw3 : Chg (w.heap.size + 1) (w.heap.size + 1 + 1) wr w3 := by subst hW4; exact qCh
       have Xw3 : Ext w w3 := by subst hW4; exact qXt
       replace b10 := Kw3.cell (by omega) b10
       replace b11 := Kw3.cell (by omega) b11
       replace b12 := Kw3.cell (by omega) b12
       replace b20 : w3.cell? ⟨w.heap.size + 1, 0, none⟩ = some (.int .i64 0) := by subst hW4; go_simp
       replace f_b20 : w3.frozen? ⟨w.heap.size + 1, 0, none⟩ = false := by subst hW4; go_simp
       replace b21 : w3.cell? ⟨w.heap.size + 1, 1, none⟩ = some (.slice none 0 0) := by subst hW4; go_simp
       replace f_b21 : w3.frozen? ⟨w.heap.size + 1, 1, none⟩ = false := by subst hW4; go_simp
       replace b22 : w3.cell? ⟨w.heap.size + 1, 2, none⟩ = some (.slice none 0 0) := by subst hW4; go_simp
       replace f_b22 : w3.frozen? ⟨w.heap.size + 1, 2, none⟩ = false := by subst hW4; go_simp
       replace b50 := Kw3.cell (by omega) b50
       replace f_b50 := Kw3.frzO (by omega) z_b5 f_b50
       replace b51 := Kw3.cell (by omega) b51
       replace f_b51 := Kw3.frzO (by omega) z_b5 f_b51
       replace b52 := Kw3.cell (by omega) b52
       replace f_b52 := Kw3.frzO (by omega) z_b5 f_b52
       replace e80 := Kw3.cell (by omega) e80
       replace T := T.chg Kw3 (by omega)
       clear Kw3
       have z_b1 : w.heap.size < w3.heap.size := qB b10
       have z_b2 : w.heap.size + 1 < w3.heap.size := qB b20
       have z_b5 : w1.heap.size < w3.heap.size := qB b50
       have z_e8 : bl6 < w3.heap.size := qB e80
       have s_w3 : w.heap.size ≤ w3.heap.size := Xw3.size
       clear hW4
       refine bodyPost_ret (v := .tuple #[.agg #[.int .i64 0, .slice none 0 0, .slice none 0 0], .bool false]) (by simp only [results, Try.results19]; go_simp) rfl ?_
       rw [show permV b1 s1 t1 ord = noV by unfold permV; rw [hB3.out, ord_no hlt hv9.out (by have := hc4.out; omega), Bool.and_false] <;> rfl]
       exact PViewB.no (Xw3.trans qXt)
      ·
       have hsl12 : (k : Int) ≤ c2 := by have := ((h3.ext Xr)).capLe; omega
       go_wp2_with fail
       refine (contains_c (ord.take k) (.slice (some ⟨bl6, ol7, none⟩) k c2) v9 _ _ ((h3.take k (by omega)).ext (Xr.trans qXt))).mono ?_
       rintro e w' ⟨rfl, rfl⟩
       cases hB13 : hasB (ord.take k) v9
       ·
        replace hB13 := Lib.hid hB13
        obtain ⟨mv9, rfl⟩ : ∃ m : Nat, v9 = m := ⟨v9.toNat, by omega⟩
        rw [hv9.out, Int.toNat_natCast] at hs1 hs2
        go_wp2_with fail
        skip
        have hN_e16 : mv9 < s1.length := (by have := hos.out; omega)
        have hI_e16 : (mv9 : Int) < (s1.length : Int) := by omega
        obtain ⟨bl14, ol15, rfl, e160⟩ := h1.at mv9 (by have := hos.out; omega)
        have y_e16 : bl14 < w.heap.size := qB e160
        replace e160 := Xr.cell e160
        obtain ⟨v17, hv17⟩ : ∃ v, s1.getD mv9 0 = v := ⟨_, rfl⟩
        rw [hv17] at e160
        replace hv17 := Lib.hid hv17
        have z_e16 : bl14 < wr.heap.size := qB e160
        rw [hv17.out] at hs1
        replace hs1 := Lib.hid hs1
        refine wp_region_tail (S := fun w' => w'.cell? ⟨w.heap.size, 0, none⟩ = some (.int .i64 b1) ∧ w'.cell? ⟨w.heap.size, 1, none⟩ = some (.slice (some ⟨bl14, ol15, none⟩) s1.length c0) ∧ w'.cell? ⟨w.heap.size, 2, none⟩ = some (.slice p1 t1.length c1) ∧ w'.cell? ⟨w.heap.size + 1, 0, none⟩ = some (.int .i64 0) ∧ w'.cell? ⟨w.heap.size + 1, 1, none⟩ = some (.slice none 0 0) ∧ w'.cell? ⟨w.heap.size + 1, 2, none⟩ = some (.slice none 0 0) ∧ w'.cell? ⟨w1.heap.size, 0, none⟩ = some (.int .i64 b1) ∧ w'.cell? ⟨w1.heap.size, 1, none⟩ = some (pr1) ∧ w'.cell? ⟨w1.heap.size, 2, none⟩ = some (pr2) ∧ w'.cell? ⟨bl6, ol7 + k, none⟩ = some (.int .i64 (mv9 : Int)) ∧ w'.cell? ⟨bl14, ol15 + mv9, none⟩ = some (.int .i64 v17)) (fun i => decide (10 ≤ i)) qKr ⟨b10, b11, b12, b20, b21, b22, b50, b51, b52, e80, e160⟩ (fun hHeld => ?_)
        refine qTk (v := ?_) 0 rfl (.inl ⟨by rfl, ?_⟩) ?_
        rotate_left
        ·
         (intro w hSw; (try dsimp only at hSw); go_simp; try with_reducible rfl)
        try simp only [Act.put, qa, qb, qc, qD, qE, qF]
        refine qTk (v := ?_) 1 rfl (.inl ⟨by rfl, ?_⟩) ?_
        rotate_left
        ·
         (intro w hSw; (try dsimp only at hSw); go_simp; try with_reducible rfl)
        try simp only [Act.put, qa, qb, qc, qD, qE, qF]
        refine qTk (v := ?_) 2 rfl (.inl ⟨by rfl, ?_⟩) ?_
        rotate_left
        ·
         (intro w hSw; (try dsimp only at hSw); go_simp; try with_reducible rfl)
        try simp only [Act.put, qa, qb, qc, qD, qE, qF]
        refine qTk (v := ?_) 3 rfl (.inl ⟨by rfl, ?_⟩) ?_
        rotate_left
        ·
         (intro w hSw; (try dsimp only at hSw); go_simp; try with_reducible rfl)
        try simp only [Act.put, qa, qb, qc, qD, qE, qF]
        refine qTk (v := ?_) 4 rfl (.inl ⟨by rfl, ?_⟩) ?_
        rotate_left
        ·
         (intro w hSw; (try dsimp only at hSw); go_simp; try with_reducible rfl)
        try simp only [Act.put, qa, qb, qc, qD, qE, qF]
        refine qTk (v := ?_) 5 rfl (.inl ⟨by rfl, ?_⟩) ?_
        rotate_left
        ·
         (intro w hSw; (try dsimp only at hSw); go_simp; try with_reducible rfl)
        try simp only [Act.put, qa, qb, qc, qD, qE, qF]
        refine qTk (v := ?_) 6 rfl (.inl ⟨by rfl, ?_⟩) ?_
        rotate_left
        ·
         (intro w hSw; (try dsimp only at hSw); go_simp; try with_reducible rfl)
        try simp only [Act.put, qa, qb, qc, qD, qE, qF]
        refine wpTail_one (i := 7) qKr rfl rfl (fun K hK => ?_)
        try simp only [Act.put, qa, qb, qc, qD, qE, qF]
        go_simp
        refine hK.out _ _ ⟨Ext.cell (w := wr) qXt b10, Ext.cell (w := wr) qXt b11, Ext.cell (w := wr) qXt b12, Ext.cell (w := wr) qXt b20, Ext.cell (w := wr) qXt b21, Ext.cell (w := wr) qXt b22, Ext.cell (w := wr) qXt b50, Ext.cell (w := wr) qXt b51, Ext.cell (w := wr) qXt b52, Ext.cell (w := wr) qXt e80, Ext.cell (w := wr) qXt e160⟩ (fun hHeld => ?_)
        clear hK K
        try simp only [Act.put, qa, qb, qc, qD, qE, qF]
        refine wpTail_one (i := 8) qKr rfl rfl (fun K hK => ?_)
        have Ew3 : Ext wr ((wr.drew).alloc (.cells #[.int .i64 (v17)] 3)) := qXt
        have Sw3 : Ints ((wr.drew).alloc (.cells #[.int .i64 (v17)] 3)) 0 (.slice (some ⟨wr.heap.size, 0, none⟩) 1 1) [v17] := by simpa using Ints.one wr.drew 0 (v17) (Nat.zero_le _)
        refine step_app rfl (.tmp 48) (.tmp 54) rfl rfl rfl (by exact T.o1.ext Ew3) (by exact Sw3) (by have := tl1.out; simp only [List.length_cons, List.length_nil]; omega) (by simp <;> omega) ?_
        intro vw3 w3 ho hgr hbl hvb
        obtain ⟨pa_w3, pn_w3, pc_w3, rfl⟩ := ho.any
        have Xw3 : Ext w w3 := Ext.below (Xr.trans Ew3) hbl (by omega)
        replace b10 := below_cell hbl (by omega) (Ew3.cell b10)
        replace b11 := below_cell hbl (by omega) (Ew3.cell b11)
        replace b12 := below_cell hbl (by omega) (Ew3.cell b12)
        replace b20 := below_cell hbl (by omega) (Ew3.cell b20)
        replace f_b20 := below_frz hbl (by omega) (Ew3.frz z_b2 f_b20)
        replace b21 := below_cell hbl (by omega) (Ew3.cell b21)
        replace f_b21 := below_frz hbl (by omega) (Ew3.frz z_b2 f_b21)
        replace b22 := below_cell hbl (by omega) (Ew3.cell b22)
        replace f_b22 := below_frz hbl (by omega) (Ew3.frz z_b2 f_b22)
        replace b50 := below_cell hbl (by omega) (Ew3.cell b50)
        replace f_b50 := below_frz hbl (by omega) (Ew3.frz z_b5 f_b50)
        replace b51 := below_cell hbl (by omega) (Ew3.cell b51)
        replace f_b51 := below_frz hbl (by omega) (Ew3.frz z_b5 f_b51)
        replace b52 := below_cell hbl (by omega) (Ew3.cell b52)
        replace f_b52 := below_frz hbl (by omega) (Ew3.frz z_b5 f_b52)
        replace e80 := below_cell hbl (by omega) (Ew3.cell e80)
        replace e160 := below_cell hbl (by omega) (Ew3.cell e160)
        have z_b1 : w.heap.size < w3.heap.size := qB b10
        have z_b2 : w.heap.size + 1 < w3.heap.size := qB b20
        have z_b5 : w1.heap.size < w3.heap.size := qB b50
        have z_e8 : bl6 < w3.heap.size := qB e80
        have z_e16 : bl14 < w3.heap.size := qB e160
        replace T := (T.ext Ew3).app1 ho hgr hvb
        have s_w3 : w.heap.size ≤ w3.heap.size := Xw3.size
        clear ho hgr hbl hvb Ew3 Sw3
        refine hK.out _ _ ⟨b10, b11, b12, b20, b21, b22, b50, b51, b52, e80, e160⟩ (fun hHeld => ?_)
        clear hK K
        try simp only [Act.put, qa, qb, qc, qD, qE, qF]
        refine qTk (v := ?_) 9 rfl (.inl ⟨by rfl, ?_⟩) ?_
        rotate_left
        ·
         (intro w hSw; (try dsimp only at hSw); go_simp; try with_reducible rfl)
        try simp only [Act.put, qa, qb, qc, qD, qE, qF]
        refine wpTail_last (i := 10) qKr rfl rfl (fun K hK => ?_)
        try simp only [Act.put, qa, qb, qc, qD, qE, qF]
        go_simp
        refine hK.out _ _ ?_
        clear hK K
        try simp only [Act.put, qa, qb, qc, qD, qE, qF]
        refine wpTail_done qKr ?_ _
        clear hHeld
        generalize hW5 : (w3.setCell ⟨w1.heap.size, 1, none⟩ (.slice pa_w3 pn_w3 pc_w3)) = w4 at *
        have Kw4 : Chg (w1.heap.size) (w1.heap.size + 1) w3 w4 := by subst hW5; exact qCh
        have Xw4 : Ext w w4 := by subst hW5; exact qXt
        replace b10 := Kw4.cell (by omega) b10
        replace b11 := Kw4.cell (by omega) b11
        replace b12 := Kw4.cell (by omega) b12
        replace b20 := Kw4.cell (by omega) b20
        replace f_b20 := Kw4.frzO (by omega) z_b2 f_b20
        replace b21 := Kw4.cell (by omega) b21
        replace f_b21 := Kw4.frzO (by omega) z_b2 f_b21
        replace b22 := Kw4.cell (by omega) b22
        replace f_b22 := Kw4.frzO (by omega) z_b2 f_b22
        replace b50 : w4.cell? ⟨w1.heap.size, 0, none⟩ = some (.int .i64 b1) := by subst hW5; go_simp
        replace f_b50 : w4.frozen? ⟨w1.heap.size, 0, none⟩ = false := by subst hW5; go_simp
        replace b51 : w4.cell? ⟨w1.heap.size, 1, none⟩ = some (.slice pa_w3 pn_w3 pc_w3) := by subst hW5; go_simp
        replace f_b51 : w4.frozen? ⟨w1.heap.size, 1, none⟩ = false := by subst hW5; go_simp
        replace b52 : w4.cell? ⟨w1.heap.size, 2, none⟩ = some (pr2) := by subst hW5; go_simp
        replace f_b52 : w4.frozen? ⟨w1.heap.size, 2, none⟩ = false := by subst hW5; go_simp
        replace e80 := Kw4.cell (by omega) e80
        replace e160 := Kw4.cell (by omega) e160
        replace T := T.chg Kw4 (by omega)
        clear Kw4
        have z_b1 : w.heap.size < w4.heap.size := qB b10
        have z_b2 : w.heap.size + 1 < w4.heap.size := qB b20
        have z_b5 : w1.heap.size < w4.heap.size := qB b50
        have z_e8 : bl6 < w4.heap.size := qB e80
        have z_e16 : bl14 < w4.heap.size := qB e160
        have s_w4 : w.heap.size ≤ w4.heap.size := Xw4.size
        clear hW5
        have hTs := T.size
        go_wp2_with fail
        skip
        have hN_e23 : mv9 < t1.length := (by have := hos.out; omega)
        have hI_e23 : (mv9 : Int) < (t1.length : Int) := by omega
        obtain ⟨bl21, ol22, rfl, e230⟩ := k1.at mv9 (by have := hos.out; omega)
        have y_e23 : bl21 < w.heap.size := qB e230
        replace e230 := Xw4.cell e230
        obtain ⟨v24, hv24⟩ : ∃ v, t1.getD mv9 0 = v := ⟨_, rfl⟩
        rw [hv24] at e230
        replace hv24 := Lib.hid hv24
        have z_e23 : bl21 < w4.heap.size := qB e230
        rw [hv24.out] at hs2
        replace hs2 := Lib.hid hs2
        refine wp_region_tail (S := fun w' => w'.cell? ⟨w.heap.size, 0, none⟩ = some (.int .i64 b1) ∧ w'.cell? ⟨w.heap.size, 1, none⟩ = some (.slice (some ⟨bl14, ol15, none⟩) s1.length c0) ∧ w'.cell? ⟨w.heap.size, 2, none⟩ = some (.slice (some ⟨bl21, ol22, none⟩) t1.length c1) ∧ w'.cell? ⟨w.heap.size + 1, 0, none⟩ = some (.int .i64 0) ∧ w'.cell? ⟨w.heap.size + 1, 1, none⟩ = some (.slice none 0 0) ∧ w'.cell? ⟨w.heap.size + 1, 2, none⟩ = some (.slice none 0 0) ∧ w'.cell? ⟨w1.heap.size, 0, none⟩ = some (.int .i64 b1) ∧ w'.cell? ⟨w1.heap.size, 1, none⟩ = some (.slice pa_w3 pn_w3 pc_w3) ∧ w'.cell? ⟨w1.heap.size, 2, none⟩ = some (pr2) ∧ w'.cell? ⟨bl6, ol7 + k, none⟩ = some (.int .i64 (mv9 : Int)) ∧ w'.cell? ⟨bl14, ol15 + mv9, none⟩ = some (.int .i64 v17) ∧ w'.cell? ⟨bl21, ol22 + mv9, none⟩ = some (.int .i64 v24)) (fun i => decide (10 ≤ i)) qKr ⟨b10, b11, b12, b20, b21, b22, b50, b51, b52, e80, e160, e230⟩ (fun hHeld => ?_)
        refine qTk (v := ?_) 0 rfl (.inl ⟨by rfl, ?_⟩) ?_
        rotate_left
        ·
         (intro w hSw; (try dsimp only at hSw); go_simp; try with_reducible rfl)
        try simp only [Act.put, qa, qb, qc, qD, qE, qF]
        refine qTk (v := ?_) 1 rfl (.inl ⟨by rfl, ?_⟩) ?_
        rotate_left
        ·
         (intro w hSw; (try dsimp only at hSw); go_simp; try with_reducible rfl)
        try simp only [Act.put, qa, qb, qc, qD, qE, qF]
        refine qTk (v := ?_) 2 rfl (.inl ⟨by rfl, ?_⟩) ?_
        rotate_left
        ·
         (intro w hSw; (try dsimp only at hSw); go_simp; try with_reducible rfl)
        try simp only [Act.put, qa, qb, qc, qD, qE, qF]
        refine qTk (v := ?_) 3 rfl (.inl ⟨by rfl, ?_⟩) ?_
        rotate_left
        ·
         (intro w hSw; (try dsimp only at hSw); go_simp; try with_reducible rfl)
        try simp only [Act.put, qa, qb, qc, qD, qE, qF]
        refine qTk (v := ?_) 4 rfl (.inl ⟨by rfl, ?_⟩) ?_
        rotate_left
        ·
         (intro w hSw; (try dsimp only at hSw); go_simp; try with_reducible rfl)
        try simp only [Act.put, qa, qb, qc, qD, qE, qF]
        refine qTk (v := ?_) 5 rfl (.inl ⟨by rfl, ?_⟩) ?_
        rotate_left
        ·
         (intro w hSw; (try dsimp only at hSw); go_simp; try with_reducible rfl)
        try simp only [Act.put, qa, qb, qc, qD, qE, qF]
        refine qTk (v := ?_) 6 rfl (.inl ⟨by rfl, ?_⟩) ?_
        rotate_left
        ·
         (intro w hSw; (try dsimp only at hSw); go_simp; try with_reducible rfl)
        try simp only [Act.put, qa, qb, qc, qD, qE, qF]
        refine wpTail_one (i := 7) qKr rfl rfl (fun K hK => ?_)
        try simp only [Act.put, qa, qb, qc, qD, qE, qF]
        go_simp
        refine hK.out _ _ ⟨Ext.cell (w := w4) qXt b10, Ext.cell (w := w4) qXt b11, Ext.cell (w := w4) qXt b12, Ext.cell (w := w4) qXt b20, Ext.cell (w := w4) qXt b21, Ext.cell (w := w4) qXt b22, Ext.cell (w := w4) qXt b50, Ext.cell (w := w4) qXt b51, Ext.cell (w := w4) qXt b52, Ext.cell (w := w4) qXt e80, Ext.cell (w := w4) qXt e160, Ext.cell (w := w4) qXt e230⟩ (fun hHeld => ?_)
        clear hK K
        try simp only [Act.put, qa, qb, qc, qD, qE, qF]
        refine wpTail_one (i := 8) qKr rfl rfl (fun K hK => ?_)
        have Ew5 : Ext w4 ((w4.drew).alloc (.cells #[.int .i64 (v24)] 3)) := qXt
        have Sw5 : Ints ((w4.drew).alloc (.cells #[.int .i64 (v24)] 3)) 0 (.slice (some ⟨w4.heap.size, 0, none⟩) 1 1) [v24] := by simpa using Ints.one w4.drew 0 (v24) (Nat.zero_le _)
        refine step_app rfl (.tmp 58) (.tmp 64) rfl rfl rfl (by exact T.o2.ext Ew5) (by exact Sw5) (by have := tl2.out; simp only [List.length_cons, List.length_nil]; omega) (by simp <;> omega) ?_
        intro vw5 w5 ho hgr hbl hvb
        obtain ⟨pa_w5, pn_w5, pc_w5, rfl⟩ := ho.any
        have Xw5 : Ext w w5 := Ext.below (Xw4.trans Ew5) hbl (by omega)
        replace b10 := below_cell hbl (by omega) (Ew5.cell b10)
        replace b11 := below_cell hbl (by omega) (Ew5.cell b11)
        replace b12 := below_cell hbl (by omega) (Ew5.cell b12)
        replace b20 := below_cell hbl (by omega) (Ew5.cell b20)
        replace f_b20 := below_frz hbl (by omega) (Ew5.frz z_b2 f_b20)
        replace b21 := below_cell hbl (by omega) (Ew5.cell b21)
        replace f_b21 := below_frz hbl (by omega) (Ew5.frz z_b2 f_b21)
        replace b22 := below_cell hbl (by omega) (Ew5.cell b22)
        replace f_b22 := below_frz hbl (by omega) (Ew5.frz z_b2 f_b22)
        replace b50 := below_cell hbl (by omega) (Ew5.cell b50)
        replace f_b50 := below_frz hbl (by omega) (Ew5.frz z_b5 f_b50)
        replace b51 := below_cell hbl (by omega) (Ew5.cell b51)
        replace f_b51 := below_frz hbl (by omega) (Ew5.frz z_b5 f_b51)
        replace b52 := below_cell hbl (by omega) (Ew5.cell b52)
        replace f_b52 := below_frz hbl (by omega) (Ew5.frz z_b5 f_b52)
        replace e80 := below_cell hbl (by omega) (Ew5.cell e80)
        replace e160 := below_cell hbl (by omega) (Ew5.cell e160)
        replace e230 := below_cell hbl (by omega) (Ew5.cell e230)
        have z_b1 : w.heap.size < w5.heap.size := qB b10
        have z_b2 : w.heap.size + 1 < w5.heap.size := qB b20
        have z_b5 : w1.heap.size < w5.heap.size := qB b50
        have z_e8 : bl6 < w5.heap.size := qB e80
        have z_e16 : bl14 < w5.heap.size := qB e160
        have z_e23 : bl21 < w5.heap.size := qB e230
        replace T := (T.ext Ew5).app2 ho hgr hvb
        have s_w5 : w.heap.size ≤ w5.heap.size := Xw5.size
        clear ho hgr hbl hvb Ew5 Sw5
        refine hK.out _ _ ⟨b10, b11, b12, b20, b21, b22, b50, b51, b52, e80, e160, e230⟩ (fun hHeld => ?_)
        clear hK K
        try simp only [Act.put, qa, qb, qc, qD, qE, qF]
        refine qTk (v := ?_) 9 rfl (.inl ⟨by rfl, ?_⟩) ?_
        rotate_left
        ·
         (intro w hSw; (try dsimp only at hSw); go_simp; try with_reducible rfl)
        try simp only [Act.put, qa, qb, qc, qD, qE, qF]
        refine wpTail_last (i := 10) qKr rfl rfl (fun K hK => ?_)
        try simp only [Act.put, qa, qb, qc, qD, qE, qF]
        go_simp
        refine hK.out _ _ ?_
        clear hK K
        try simp only [Act.put, qa, qb, qc, qD, qE, qF]
        refine wpTail_done qKr ?_ _
        clear hHeld
        generalize hW6 : (w5.setCell ⟨w1.heap.size, 2, none⟩ (.slice pa_w5 pn_w5 pc_w5)) = w6 at *
        have Kw6 : Chg (w1.heap.size) (w1.heap.size + 1) w5 w6 := by subst hW6; exact qCh
        have Xw6 : Ext w w6 := by subst hW6; exact qXt
        replace b10 := Kw6.cell (by omega) b10
        replace b11 := Kw6.cell (by omega) b11
        replace b12 := Kw6.cell (by omega) b12
        replace b20 := Kw6.cell (by omega) b20
        replace f_b20 := Kw6.frzO (by omega) z_b2 f_b20
        replace b21 := Kw6.cell (by omega) b21
        replace f_b21 := Kw6.frzO (by omega) z_b2 f_b21
        replace b22 := Kw6.cell (by omega) b22
        replace f_b22 := Kw6.frzO (by omega) z_b2 f_b22
        replace b50 : w6.cell? ⟨w1.heap.size, 0, none⟩ = some (.int .i64 b1) := by subst hW6; go_simp
        replace f_b50 : w6.frozen? ⟨w1.heap.size, 0, none⟩ = false := by subst hW6; go_simp
        replace b51 : w6.cell? ⟨w1.heap.size, 1, none⟩ = some (.slice pa_w3 pn_w3 pc_w3) := by subst hW6; go_simp
        replace f_b51 : w6.frozen? ⟨w1.heap.size, 1, none⟩ = false := by subst hW6; go_simp
        replace b52 : w6.cell? ⟨w1.heap.size, 2, none⟩ = some (.slice pa_w5 pn_w5 pc_w5) := by subst hW6; go_simp
        replace f_b52 : w6.frozen? ⟨w1.heap.size, 2, none⟩ = false := by subst hW6; go_simp
        replace e80 := Kw6.cell (by omega) e80
        replace e160 := Kw6.cell (by omega) e160
        replace e230 := Kw6.cell (by omega) e230
        replace T := T.chg Kw6 (by omega)
        clear Kw6
        have z_b1 : w.heap.size < w6.heap.size := qB b10
        have z_b2 : w.heap.size + 1 < w6.heap.size := qB b20
        have z_b5 : w1.heap.size < w6.heap.size := qB b50
        have z_e8 : bl6 < w6.heap.size := qB e80
        have z_e16 : bl14 < w6.heap.size := qB e160
        have z_e23 : bl21 < w6.heap.size := qB e230
        have s_w6 : w.heap.size ≤ w6.heap.size := Xw6.size
        clear hW6
        have hTs := T.size
        go_wp2_with fail
        go_roundw
        case rel => exact ⟨k + 1, _, _, by omega, by go_num, Lib.hid (hok.out.succ hlt hv9.out (by have := hos.out; omega) hB13.out), by rw [hs1.out, hs2.out]; exact T, Xw6, b10, b11, b12, b20, b21, b22, f_b20, f_b21, f_b22, b50, b51, b52, f_b50, f_b51, f_b52⟩
        case measure => simp [intOf]; omega
       ·
        replace hB13 := Lib.hid hB13
        go_wp2_with fail
        generalize hW7 : (((wr.setCell ⟨w.heap.size + 1, 0, none⟩ (.int .i64 0)).setCell ⟨w.heap.size + 1, 1, none⟩ (.slice none 0 0)).setCell ⟨w.heap.size + 1, 2, none⟩ (.slice none 0 0)) = w3 at *
        have Kw3 : Chg (w.heap.size + 1) (w.heap.size + 1 + 1) wr w3 := by subst hW7; exact qCh
        have Xw3 : Ext w w3 := by subst hW7; exact qXt
        replace b10 := Kw3.cell (by omega) b10
        replace b11 := Kw3.cell (by omega) b11
        replace b12 := Kw3.cell (by omega) b12
        replace b20 : w3.cell? ⟨w.heap.size + 1, 0, none⟩ = some (.int .i64 0) := by subst hW7; go_simp
        replace f_b20 : w3.frozen? ⟨w.heap.size + 1, 0, none⟩ = false := by subst hW7; go_simp
        replace b21 : w3.cell? ⟨w.heap.size + 1, 1, none⟩ = some (.slice none 0 0) := by subst hW7; go_simp
        replace f_b21 : w3.frozen? ⟨w.heap.size + 1, 1, none⟩ = false := by subst hW7; go_simp
        replace b22 : w3.cell? ⟨w.heap.size + 1, 2, none⟩ = some (.slice none 0 0) := by subst hW7; go_simp
        replace f_b22 : w3.frozen? ⟨w.heap.size + 1, 2, none⟩ = false := by subst hW7; go_simp
        replace b50 := Kw3.cell (by omega) b50
        replace f_b50 := Kw3.frzO (by omega) z_b5 f_b50
        replace b51 := Kw3.cell (by omega) b51
        replace f_b51 := Kw3.frzO (by omega) z_b5 f_b51
        replace b52 := Kw3.cell (by omega) b52
        replace f_b52 := Kw3.frzO (by omega) z_b5 f_b52
        replace e80 := Kw3.cell (by omega) e80
        replace T := T.chg Kw3 (by omega)
        clear Kw3
        have z_b1 : w.heap.size < w3.heap.size := qB b10
        have z_b2 : w.heap.size + 1 < w3.heap.size := qB b20
        have z_b5 : w1.heap.size < w3.heap.size := qB b50
        have z_e8 : bl6 < w3.heap.size := qB e80
        have s_w3 : w.heap.size ≤ w3.heap.size := Xw3.size
        clear hW7
        refine bodyPost_ret (v := .tuple #[.agg #[.int .i64 0, .slice none 0 0, .slice none 0 0], .bool false]) (by simp only [results, Try.results19]; go_simp) rfl ?_
        rw [show permV b1 s1 t1 ord = noV by unfold permV; rw [hB3.out, ord_no hlt hv9.out (.inr (.inr hB13.out)), Bool.and_false] <;> rfl]
        exact PViewB.no (Xw3.trans qXt)
    ·
     have hkI : ¬ (k : Int) < ord.length := by omega
     obtain rfl : k = ord.length := by omega
     rw [List.take_length] at T
     obtain ⟨a5, c5, rfl⟩ := (T.o1.ints (by rw [takL_len]; omega)).form
     obtain ⟨a6, c6, rfl⟩ := (T.o2.ints (by rw [takL_len]; omega)).form
     simp only [takL_len] at b51 b52 T
     go_wp2_with fail
     generalize hW8 : (((wr.setCell ⟨w.heap.size + 1, 0, none⟩ (.int .i64 b1)).setCell ⟨w.heap.size + 1, 1, none⟩ (.slice a5 ord.length c5)).setCell ⟨w.heap.size + 1, 2, none⟩ (.slice a6 ord.length c6)) = w3 at *
     have Kw3 : Chg (w.heap.size + 1) (w.heap.size + 1 + 1) wr w3 := by subst hW8; exact qCh
     have Xw3 : Ext w w3 := by subst hW8; exact qXt
     replace b10 := Kw3.cell (by omega) b10
     replace b11 := Kw3.cell (by omega) b11
     replace b12 := Kw3.cell (by omega) b12
     replace b20 : w3.cell? ⟨w.heap.size + 1, 0, none⟩ = some (.int .i64 b1) := by subst hW8; go_simp
     replace f_b20 : w3.frozen? ⟨w.heap.size + 1, 0, none⟩ = false := by subst hW8; go_simp
     replace b21 : w3.cell? ⟨w.heap.size + 1, 1, none⟩ = some (.slice a5 ord.length c5) := by subst hW8; go_simp
     replace f_b21 : w3.frozen? ⟨w.heap.size + 1, 1, none⟩ = false := by subst hW8; go_simp
     replace b22 : w3.cell? ⟨w.heap.size + 1, 2, none⟩ = some (.slice a6 ord.length c6) := by subst hW8; go_simp
     replace f_b22 : w3.frozen? ⟨w.heap.size + 1, 2, none⟩ = false := by subst hW8; go_simp
     replace b50 := Kw3.cell (by omega) b50
     replace f_b50 := Kw3.frzO (by omega) z_b5 f_b50
     replace b51 := Kw3.cell (by omega) b51
     replace f_b51 := Kw3.frzO (by omega) z_b5 f_b51
     replace b52 := Kw3.cell (by omega) b52
     replace f_b52 := Kw3.frzO (by omega) z_b5 f_b52
     replace T := T.chg Kw3 (by omega)
     clear Kw3
     have z_b1 : w.heap.size < w3.heap.size := qB b10
     have z_b2 : w.heap.size + 1 < w3.heap.size := qB b20
     have z_b5 : w1.heap.size < w3.heap.size := qB b50
     have s_w3 : w.heap.size ≤ w3.heap.size := Xw3.size
     clear hW8
     refine bodyPost_ret (v := .tuple #[.agg #[.int .i64 b1, .slice a5 ord.length c5, .slice a6 ord.length c6], .bool true]) (by simp only [results, Try.results19]; go_simp) rfl ?_
     rw [show permV b1 s1 t1 ord = (b1, takL s1 ord, takL t1 ord, true) by unfold permV madeV; rw [hB3.out, ord_yes (by have := hos.out; omega) hok.out, (perm_view hB3.out (ord_yes (by have := hos.out; omega) hok.out)).1] <;> rfl]
     exact PViewB.two T (by omega) (by rw [takL_len]; omega) (by rw [takL_len]; omega) Xw3
  ·
   have hc4e : ((ord.length : Int) == (s1.length : Int)) = false := by simpa using hc4
   have hc4n : ((ord.length : Int) != (s1.length : Int)) = true := by simpa using hc4
   replace hc4 := Lib.hid hc4
   go_wp2_with fail
   generalize hW9 : (((w1.setCell ⟨w.heap.size + 1, 0, none⟩ (.int .i64 0)).setCell ⟨w.heap.size + 1, 1, none⟩ (.slice none 0 0)).setCell ⟨w.heap.size + 1, 2, none⟩ (.slice none 0 0)) = w2 at *
   have Kw2 : Chg (w.heap.size + 1) (w.heap.size + 1 + 1) w1 w2 := by subst hW9; exact qCh
   have Xw2 : Ext w w2 := by subst hW9; exact qXt
   replace b10 := Kw2.cell (by omega) b10
   replace b11 := Kw2.cell (by omega) b11
   replace b12 := Kw2.cell (by omega) b12
   replace b20 : w2.cell? ⟨w.heap.size + 1, 0, none⟩ = some (.int .i64 0) := by subst hW9; go_simp
   replace f_b20 : w2.frozen? ⟨w.heap.size + 1, 0, none⟩ = false := by subst hW9; go_simp
   replace b21 : w2.cell? ⟨w.heap.size + 1, 1, none⟩ = some (.slice none 0 0) := by subst hW9; go_simp
   replace f_b21 : w2.frozen? ⟨w.heap.size + 1, 1, none⟩ = false := by subst hW9; go_simp
   replace b22 : w2.cell? ⟨w.heap.size + 1, 2, none⟩ = some (.slice none 0 0) := by subst hW9; go_simp
   replace f_b22 : w2.frozen? ⟨w.heap.size + 1, 2, none⟩ = false := by subst hW9; go_simp
   clear Kw2
   have z_b1 : w.heap.size < w2.heap.size := qB b10
   have z_b2 : w.heap.size + 1 < w2.heap.size := qB b20
   have s_w2 : w.heap.size ≤ w2.heap.size := Xw2.size
   clear hW9
   refine bodyPost_ret (v := .tuple #[.agg #[.int .i64 0, .slice none 0 0, .slice none 0 0], .bool false]) (by simp only [results, Try.results19]; go_simp) rfl ?_
   rw [show permV b1 s1 t1 ord = noV by unfold permV; rw [hB3.out, ord_len hc4.out, Bool.and_false] <;> rfl]
   exact PViewB.no (Xw2.trans qXt)


end Go.Proofs.Ytonnnjaooifpjaa
