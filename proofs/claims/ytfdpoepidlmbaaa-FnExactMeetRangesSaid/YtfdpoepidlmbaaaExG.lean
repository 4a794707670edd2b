/- Walks: normal forms of ranges, LineOf of the program and of the reference, comparison of ranges. -/
import Derived.Test.YtfdpoepidlmbaaaViewG
import Derived.Test.YtfdpoepidlmbaaaLp
import Derived.Test.YtfdpoepidlmbaaaExD
namespace Go.Proofs.Ytfdpoepidlmbaaa
open Go.RowKit
set_option linter.unusedVariables false
set_option maxRecDepth 100000

theorem Ints.head {w : World} {lo : Nat} {v : Value} {xs : List Int} (h : Ints w lo v xs) (hn : 0 < xs.length) : ∃ b off c, v = .slice (some ⟨b, off, none⟩) xs.length c ∧ w.cell? ⟨b, off, none⟩ = some (.int .i64 (xs.getD 0 0)) := by
  obtain ⟨a, cap, rfl, _, _, _, h4⟩ := h
  obtain ⟨b, off, rfl, _, hc, _⟩ := h4 0 hn
  exact ⟨b, off, cap, rfl, hc⟩

set_option maxHeartbeats 3200000 in
theorem normalOf_c (xs : List Int) (v : Value) (w : World) (lo : Nat) (hv : Ints w lo v xs) (hb : ∀ x ∈ xs, -1000000 ≤ x ∧ x ≤ 1000000) :
    Calls Try.prog 150 #[v] w (fun e w' => e = .returned (.agg #[.int .i64 (normL xs).1, .int .i64 (normL xs).2.1, .int .i64 (normL xs).2.2]) ∧ Ext w w') := by
  rcases xs with _ | ⟨x, _ | ⟨y, r⟩⟩
  · obtain ⟨a, cap, rfl, _⟩ := hv
    go_enter Try.func150, Try.ntmps150
    go_wp2_with fail
    refine bodyPost_ret (v := .agg #[.int .i64 (0), .int .i64 (0), .int .i64 (1)]) (by simp only [results, Try.results150]; go_simp) rfl ⟨?_, (by repeat (first | exact Ext.refl _ | assumption | apply Ext.drewN | apply Ext.drew | apply Ext.alloc | (refine Ext.setCell ?_ (by simp) _)))⟩
    rfl
  · obtain ⟨b, off, c, rfl, hcell⟩ := hv.head (by simp)
    have hx := hb x (List.mem_cons_self ..)
    have hnn := World.new_ne _ _ hcell
    have e1 : IntKind.i64.wrap (x + 1) = x + 1 := IntWalk.i64_in _ (by omega)
    simp at hcell
    go_enter Try.func150, Try.ntmps150
    go_wp2_with fail
    go_region_held3 (fun w' => w'.cell? ⟨b, off, none⟩ = some (.int .i64 x)) (go_keep) (fail)
    go_wp2_with fail
    refine bodyPost_ret (v := .agg #[.int .i64 (x), .int .i64 (x + 1), .int .i64 (1)]) (by simp only [results, Try.results150]; go_simp) rfl ⟨?_, (by repeat (first | exact Ext.refl _ | assumption | apply Ext.drewN | apply Ext.drew | apply Ext.alloc | (refine Ext.setCell ?_ (by simp) _)))⟩
    rfl
  · obtain ⟨a, c, hv', hlc, hcm, ⟨hlen, _⟩, hc⟩ := hv
    subst hv'
    obtain ⟨b, off, rfl, _, hcell, _⟩ := hc 0 (by simp)
    obtain ⟨_, _, hh, _, hcell1, _⟩ := hc 1 (by simp)
    cases hh
    obtain ⟨_, _, hh, _, hcell2, _⟩ := hc (r.length + 1) (by simp)
    cases hh
    have hx := hb x (List.mem_cons_self ..)
    have hy := hb y (List.mem_cons_of_mem _ (List.mem_cons_self ..))
    have hz := hb _ (List.mem_cons_of_mem _ (List.getLast_mem (l := y :: r) (by simp)))
    have hg : (x :: y :: r).getD (r.length + 1) 0 = (y :: r).getLast (by simp) := by rw [List.getLast_eq_getElem]; simp
    rw [hg] at hcell2
    have hll : (x :: y :: r).length = r.length + 2 := by simp
    have hN : normL (x :: y :: r) = (x, if y - x < 0 then (y :: r).getLast (by simp) - 1 else (y :: r).getLast (by simp) + 1, y - x) := rfl
    generalize (y :: r).getLast (by simp) = z at *
    replace hN := Lib.hid hN
    have hn2 : 2 ≤ (x :: y :: r).length := by omega
    rw [show r.length + 1 = (x :: y :: r).length - 1 by omega] at hcell2
    generalize (x :: y :: r).length = n at *
    simp at hcell hcell1
    have hnn := World.new_ne _ _ hcell
    have hnn : w.heap.size ≠ b := hnn
    have e1 : IntKind.i64.wrap (z + 1) = z + 1 := IntWalk.i64_in _ (by omega)
    have e2 : IntKind.i64.wrap (y - x) = y - x := IntWalk.i64_in _ (by omega)
    have e3 : IntKind.i64.wrap ((n : Int) - 1) = (n : Int) - 1 := IntWalk.i64_in _ (by omega)
    have e4 : ((n : Int) - 1).toNat = n - 1 := by omega
    have e5 : (0 : Int) ≤ (n : Int) - 1 := by omega
    have e6 : (n : Int) - 1 < n := by omega
    have e7 : (0 : Int) < n := by omega
    have e8 : (1 : Int) < n := by omega
    have e9 : (1 : Int) ≤ n := by omega
    have e10 : 0 < n := by omega
    have e11 : 1 ≤ n := by omega
    have e12 : 1 < n := by omega
    clear hc hg hll hb hcm hlen hlc hn2
    obtain ⟨hz1, hz2⟩ := hz
    obtain ⟨hx1, hx2⟩ := hx
    obtain ⟨hy1, hy2⟩ := hy
    by_cases hs : y - x < 0
    · have hN' := Lib.hid (show normL (x :: y :: r) = (x, z - 1, y - x) by rw [hN.out, if_pos hs])
      go_enter Try.func150, Try.ntmps150
      go_wp2_with fail
      go_region_held3 (fun w' => w'.cell? ⟨b, off, none⟩ = some (.int .i64 x) ∧ w'.cell? ⟨b, off + 1, none⟩ = some (.int .i64 y) ∧ w'.cell? ⟨b, off + (n - 1), none⟩ = some (.int .i64 z)) (go_keep) (fail)
      go_wp2_with fail
      refine bodyPost_ret (v := .agg #[.int .i64 (x), .int .i64 (z + 1 - 2), .int .i64 (y - x)]) (by simp only [results, Try.results150]; go_simp) rfl ⟨?_, (by repeat (first | exact Ext.refl _ | assumption | apply Ext.drewN | apply Ext.drew | apply Ext.alloc | (refine Ext.setCell ?_ (by simp) _)))⟩
      rw [hN'.out, show z + 1 - 2 = z - 1 by omega]
    · have hN' := Lib.hid (show normL (x :: y :: r) = (x, z + 1, y - x) by rw [hN.out, if_neg hs])
      go_enter Try.func150, Try.ntmps150
      go_wp2_with fail
      go_region_held3 (fun w' => w'.cell? ⟨b, off, none⟩ = some (.int .i64 x) ∧ w'.cell? ⟨b, off + 1, none⟩ = some (.int .i64 y) ∧ w'.cell? ⟨b, off + (n - 1), none⟩ = some (.int .i64 z)) (go_keep) (fail)
      go_wp2_with fail
      refine bodyPost_ret (v := .agg #[.int .i64 (x), .int .i64 (z + 1), .int .i64 (y - x)]) (by simp only [results, Try.results150]; go_simp) rfl ⟨?_, (by repeat (first | exact Ext.refl _ | assumption | apply Ext.drewN | apply Ext.drew | apply Ext.alloc | (refine Ext.setCell ?_ (by simp) _)))⟩
      rw [hN'.out]

set_option maxHeartbeats 3200000 in
theorem normal_c (xs : List Int) (v : Value) (w : World) (lo : Nat) (hv : Ints w lo v xs) (hb : ∀ x ∈ xs, -1000000 ≤ x ∧ x ≤ 1000000) :
    Calls Try.prog 142 #[v] w (fun e w' => e = .returned (.agg #[.int .i64 (normL xs).1, .int .i64 (normL xs).2.1, .int .i64 (normL xs).2.2]) ∧ Ext w w') := by
  rcases xs with _ | ⟨x, _ | ⟨y, r⟩⟩
  · obtain ⟨a, cap, rfl, _⟩ := hv
    go_enter Try.func142, Try.ntmps142
    go_wp2_with fail
    refine bodyPost_ret (v := .agg #[.int .i64 (0), .int .i64 (0), .int .i64 (1)]) (by simp only [results, Try.results142]; go_simp) rfl ⟨?_, (by repeat (first | exact Ext.refl _ | assumption | apply Ext.drewN | apply Ext.drew | apply Ext.alloc | (refine Ext.setCell ?_ (by simp) _)))⟩
    rfl
  · obtain ⟨b, off, c, rfl, hcell⟩ := hv.head (by simp)
    have hx := hb x (List.mem_cons_self ..)
    have hnn := World.new_ne _ _ hcell
    have e1 : IntKind.i64.wrap (x + 1) = x + 1 := IntWalk.i64_in _ (by omega)
    simp at hcell
    go_enter Try.func142, Try.ntmps142
    go_wp2_with fail
    go_region_held3 (fun w' => w'.cell? ⟨b, off, none⟩ = some (.int .i64 x)) (go_keep) (fail)
    go_wp2_with fail
    refine bodyPost_ret (v := .agg #[.int .i64 (x), .int .i64 (x + 1), .int .i64 (1)]) (by simp only [results, Try.results142]; go_simp) rfl ⟨?_, (by repeat (first | exact Ext.refl _ | assumption | apply Ext.drewN | apply Ext.drew | apply Ext.alloc | (refine Ext.setCell ?_ (by simp) _)))⟩
    rfl
  · obtain ⟨a, c, hv', hlc, hcm, ⟨hlen, _⟩, hc⟩ := hv
    subst hv'
    obtain ⟨b, off, rfl, _, hcell, _⟩ := hc 0 (by simp)
    obtain ⟨_, _, hh, _, hcell1, _⟩ := hc 1 (by simp)
    cases hh
    obtain ⟨_, _, hh, _, hcell2, _⟩ := hc (r.length + 1) (by simp)
    cases hh
    have hx := hb x (List.mem_cons_self ..)
    have hy := hb y (List.mem_cons_of_mem _ (List.mem_cons_self ..))
    have hz := hb _ (List.mem_cons_of_mem _ (List.getLast_mem (l := y :: r) (by simp)))
    have hg : (x :: y :: r).getD (r.length + 1) 0 = (y :: r).getLast (by simp) := by rw [List.getLast_eq_getElem]; simp
    rw [hg] at hcell2
    have hll : (x :: y :: r).length = r.length + 2 := by simp
    have hN : normL (x :: y :: r) = (x, if y - x < 0 then (y :: r).getLast (by simp) - 1 else (y :: r).getLast (by simp) + 1, y - x) := rfl
    generalize (y :: r).getLast (by simp) = z at *
    replace hN := Lib.hid hN
    have hn2 : 2 ≤ (x :: y :: r).length := by omega
    rw [show r.length + 1 = (x :: y :: r).length - 1 by omega] at hcell2
    generalize (x :: y :: r).length = n at *
    simp at hcell hcell1
    have hnn := World.new_ne _ _ hcell
    have hnn : w.heap.size ≠ b := hnn
    have e1 : IntKind.i64.wrap (z + 1) = z + 1 := IntWalk.i64_in _ (by omega)
    have e2 : IntKind.i64.wrap (y - x) = y - x := IntWalk.i64_in _ (by omega)
    have e3 : IntKind.i64.wrap ((n : Int) - 1) = (n : Int) - 1 := IntWalk.i64_in _ (by omega)
    have e4 : ((n : Int) - 1).toNat = n - 1 := by omega
    have e5 : (0 : Int) ≤ (n : Int) - 1 := by omega
    have e6 : (n : Int) - 1 < n := by omega
    have e7 : (0 : Int) < n := by omega
    have e8 : (1 : Int) < n := by omega
    have e9 : (1 : Int) ≤ n := by omega
    have e10 : 0 < n := by omega
    have e11 : 1 ≤ n := by omega
    have e12 : 1 < n := by omega
    clear hc hg hll hb hcm hlen hlc hn2
    obtain ⟨hz1, hz2⟩ := hz
    obtain ⟨hx1, hx2⟩ := hx
    obtain ⟨hy1, hy2⟩ := hy
    by_cases hs : y - x < 0
    · have hN' := Lib.hid (show normL (x :: y :: r) = (x, z - 1, y - x) by rw [hN.out, if_pos hs])
      go_enter Try.func142, Try.ntmps142
      go_wp2_with fail
      go_region_held3 (fun w' => w'.cell? ⟨b, off, none⟩ = some (.int .i64 x) ∧ w'.cell? ⟨b, off + 1, none⟩ = some (.int .i64 y) ∧ w'.cell? ⟨b, off + (n - 1), none⟩ = some (.int .i64 z)) (go_keep) (fail)
      go_wp2_with fail
      refine bodyPost_ret (v := .agg #[.int .i64 (x), .int .i64 (z - 1), .int .i64 (y - x)]) (by simp only [results, Try.results142]; go_simp) rfl ⟨?_, (by repeat (first | exact Ext.refl _ | assumption | apply Ext.drewN | apply Ext.drew | apply Ext.alloc | (refine Ext.setCell ?_ (by simp) _)))⟩
      rw [hN'.out]
    · have hN' := Lib.hid (show normL (x :: y :: r) = (x, z + 1, y - x) by rw [hN.out, if_neg hs])
      go_enter Try.func142, Try.ntmps142
      go_wp2_with fail
      go_region_held3 (fun w' => w'.cell? ⟨b, off, none⟩ = some (.int .i64 x) ∧ w'.cell? ⟨b, off + 1, none⟩ = some (.int .i64 y) ∧ w'.cell? ⟨b, off + (n - 1), none⟩ = some (.int .i64 z)) (go_keep) (fail)
      go_wp2_with fail
      refine bodyPost_ret (v := .agg #[.int .i64 (x), .int .i64 (z + 1), .int .i64 (y - x)]) (by simp only [results, Try.results142]; go_simp) rfl ⟨?_, (by repeat (first | exact Ext.refl _ | assumption | apply Ext.drewN | apply Ext.drew | apply Ext.alloc | (refine Ext.setCell ?_ (by simp) _)))⟩
      rw [hN'.out]

set_option maxHeartbeats 800000 in
theorem eqRange_c (x y z : Int) (w : World) :
    Calls Try.prog 54 #[.agg #[.int .i64 x, .int .i64 y, .int .i64 z], .agg #[.int .i64 x, .int .i64 y, .int .i64 z]] w fun e w' => e = .returned (.bool true) ∧ Ext w w' := by
  go_enter Try.func54, Try.ntmps54
  go_wp2_with fail
  go_ret
  exact ⟨rfl, (by repeat (first | exact Ext.refl _ | assumption | apply Ext.drewN | apply Ext.drew | apply Ext.alloc))⟩

def lineT (b : Int) (s t : List Int) : Int × Int × Int := if viewB b s t && decide (s.length = 1) then normL (cellsL b s t) else (0, 0, 0)
theorem cells_in2 {b : Int} {s t : List Int} (h : viewB b s t = true) : ∀ x ∈ cellsL b s t, 0 ≤ x ∧ x ≤ 59 := fun x hx => (viewB_in h).2.2.2.2 x (((cellsL_spec b s t).2 x).1 hx)

set_option maxHeartbeats 1600000 in
theorem implLineOf_c (b1 : Int) (u1 v1 : Value) (s1 t1 : List Int) (w : World) (l1 m1 : Nat) (h1 : Ints w l1 u1 s1) (k1 : Ints w m1 v1 t1) :
    Calls Try.prog 90 #[.agg #[.int .i64 b1, u1, v1]] w (fun e w' => e = .returned (.agg #[.int .i64 (lineT b1 s1 t1).1, .int .i64 (lineT b1 s1 t1).2.1, .int .i64 (lineT b1 s1 t1).2.2]) ∧ Ext w w') := by
  cases ha : viewB b1 s1 t1
  · have hr := Lib.hid (show lineT b1 s1 t1 = (0, 0, 0) by unfold lineT; rw [ha]; rfl)
    go_enter Try.func90, Try.ntmps90
    go_wp2_with fail
    refine (isView_c b1 _ _ s1 t1 _ l1 m1 (h1.ext (by repeat (first | exact Ext.refl _ | assumption | apply Ext.drewN | apply Ext.drew | apply Ext.alloc))) (k1.ext (by repeat (first | exact Ext.refl _ | assumption | apply Ext.drewN | apply Ext.drew | apply Ext.alloc)))).mono ?_
    rintro e w1 ⟨rfl, xw1⟩
    have Lw1 : Ext w w1 := Ext.trans (by repeat (first | exact Ext.refl _ | assumption | apply Ext.drewN | apply Ext.drew | apply Ext.alloc)) xw1
    have Xw1 : Ext w w1 := Lw1
    have c10 : w1.cell? ⟨w.heap.size, 0, none⟩ = some (.int .i64 b1) := xw1.cell (by first | (simp; done) | (rw [World.cell?_alloc_lt _ _ _ (by simp)]; simp; done) | (go_simp; done))
    have c11 : w1.cell? ⟨w.heap.size, 1, none⟩ = some (u1) := xw1.cell (by first | (simp; done) | (rw [World.cell?_alloc_lt _ _ _ (by simp)]; simp; done) | (go_simp; done))
    have c12 : w1.cell? ⟨w.heap.size, 2, none⟩ = some (v1) := xw1.cell (by first | (simp; done) | (rw [World.cell?_alloc_lt _ _ _ (by simp)]; simp; done) | (go_simp; done))
    have z1 : w.heap.size < w1.heap.size := World.block_lt_of_cell? _ _ c10
    have sw1 : w.heap.size ≤ w1.heap.size := Lw1.size
    rw [ha]
    have zz : w.heap.size + 1 < w1.heap.size := by have := xw1.size; simp at this; omega
    have R1 := xw1.rule
    have F1 := xw1.frule
    go_wp2_with fail
    refine bodyPost_ret (v := .agg #[.int .i64 (0), .int .i64 (0), .int .i64 (0)]) (by simp only [results, Try.results90]; go_simp) rfl ⟨?_, ?_⟩
    · rw [hr.out]
    · exact ((Xw1.setCell (by simp) _).setCell (by simp) _).setCell (by simp) _
  · have ha' := Lib.hid ha
    clear ha
    obtain ⟨a1, c1, rfl⟩ := h1.form
    by_cases hs : s1.length = 1
    · have hr := Lib.hid (show lineT b1 s1 t1 = normL (cellsL b1 s1 t1) by unfold lineT; rw [ha'.out, decide_eq_true hs]; rfl)
      have hs' : ((s1.length : Int) == 1) = true := by simp; omega
      have hs2 : ((s1.length : Int) != 1) = false := by simp; omega
      replace hs := Lib.hid hs
      go_enter Try.func90, Try.ntmps90
      go_wp2_with fail
      refine (isView_c b1 _ _ s1 t1 _ l1 m1 (h1.ext (by repeat (first | exact Ext.refl _ | assumption | apply Ext.drewN | apply Ext.drew | apply Ext.alloc))) (k1.ext (by repeat (first | exact Ext.refl _ | assumption | apply Ext.drewN | apply Ext.drew | apply Ext.alloc)))).mono ?_
      rintro e w1 ⟨rfl, xw1⟩
      have Lw1 : Ext w w1 := Ext.trans (by repeat (first | exact Ext.refl _ | assumption | apply Ext.drewN | apply Ext.drew | apply Ext.alloc)) xw1
      have Xw1 : Ext w w1 := Lw1
      have c10 : w1.cell? ⟨w.heap.size, 0, none⟩ = some (.int .i64 b1) := xw1.cell (by first | (simp; done) | (rw [World.cell?_alloc_lt _ _ _ (by simp)]; simp; done) | (go_simp; done))
      have c11 : w1.cell? ⟨w.heap.size, 1, none⟩ = some (.slice a1 s1.length c1) := xw1.cell (by first | (simp; done) | (rw [World.cell?_alloc_lt _ _ _ (by simp)]; simp; done) | (go_simp; done))
      have c12 : w1.cell? ⟨w.heap.size, 2, none⟩ = some (v1) := xw1.cell (by first | (simp; done) | (rw [World.cell?_alloc_lt _ _ _ (by simp)]; simp; done) | (go_simp; done))
      have z1 : w.heap.size < w1.heap.size := World.block_lt_of_cell? _ _ c10
      have sw1 : w.heap.size ≤ w1.heap.size := Lw1.size
      rw [ha'.out]
      have R1 := xw1.rule
      have F1 := xw1.frule
      have zz : w.heap.size + 1 < w1.heap.size := by have := xw1.size; simp at this; omega
      go_wp2_with fail
      refine (cellsOf_c b1 _ _ s1 t1 _ l1 m1 (h1.ext (Xw1.trans (by repeat (first | exact Ext.refl _ | assumption | apply Ext.drewN | apply Ext.drew | apply Ext.alloc)))) (k1.ext (Xw1.trans (by repeat (first | exact Ext.refl _ | assumption | apply Ext.drewN | apply Ext.drew | apply Ext.alloc)))) ha'.out).mono ?_
      rintro e w2 ⟨r2, rfl, i2, _, xw2⟩
      have Lw2 : Ext w1 w2 := Ext.trans (by repeat (first | exact Ext.refl _ | assumption | apply Ext.drewN | apply Ext.drew | apply Ext.alloc)) xw2
      have Xw2 : Ext w w2 := Xw1.trans Lw2
      replace c10 := Lw2.cell c10
      replace c11 := Lw2.cell c11
      replace c12 := Lw2.cell c12
      have z2 : w.heap.size < w2.heap.size := World.block_lt_of_cell? _ _ c10
      have sw2 : w1.heap.size ≤ w2.heap.size := Lw2.size
      have R2 := xw2.rule
      have F2 := xw2.frule
      have zz2 : w.heap.size + 1 < w2.heap.size := by omega
      go_wp2_with fail
      refine (normalOf_c _ _ _ _ (i2.ext (by repeat (first | exact Ext.refl _ | assumption | apply Ext.drewN | apply Ext.drew | apply Ext.alloc))) (fun x hx => by have := cells_in2 ha'.out x hx; omega)).mono ?_
      rintro e w3 ⟨rfl, xw3⟩
      have Lw3 : Ext w2 w3 := Ext.trans (by repeat (first | exact Ext.refl _ | assumption | apply Ext.drewN | apply Ext.drew | apply Ext.alloc)) xw3
      have Xw3 : Ext w w3 := Xw2.trans Lw3
      replace c10 := Lw3.cell c10
      replace c11 := Lw3.cell c11
      replace c12 := Lw3.cell c12
      have z3 : w.heap.size < w3.heap.size := World.block_lt_of_cell? _ _ c10
      have sw3 : w2.heap.size ≤ w3.heap.size := Lw3.size
      have R3 := xw3.rule
      have F3 := xw3.frule
      have zz3 : w.heap.size + 1 < w3.heap.size := by omega
      go_wp2_with fail
      refine bodyPost_ret (v := .agg #[.int .i64 ((normL (cellsL b1 s1 t1)).1), .int .i64 ((normL (cellsL b1 s1 t1)).2.1), .int .i64 ((normL (cellsL b1 s1 t1)).2.2)]) (by simp only [results, Try.results90]; go_simp) rfl ⟨?_, ?_⟩
      · rw [hr.out]
      · exact ((Xw3.setCell (by simp) _).setCell (by simp) _).setCell (by simp) _
    · have hr := Lib.hid (show lineT b1 s1 t1 = (0, 0, 0) by unfold lineT; rw [decide_eq_false hs, Bool.and_false]; rfl)
      have hs' : ((s1.length : Int) == 1) = false := by simp; omega
      have hs2 : ((s1.length : Int) != 1) = true := by simp; omega
      clear hs
      go_enter Try.func90, Try.ntmps90
      go_wp2_with fail
      refine (isView_c b1 _ _ s1 t1 _ l1 m1 (h1.ext (by repeat (first | exact Ext.refl _ | assumption | apply Ext.drewN | apply Ext.drew | apply Ext.alloc))) (k1.ext (by repeat (first | exact Ext.refl _ | assumption | apply Ext.drewN | apply Ext.drew | apply Ext.alloc)))).mono ?_
      rintro e w1 ⟨rfl, xw1⟩
      have Lw1 : Ext w w1 := Ext.trans (by repeat (first | exact Ext.refl _ | assumption | apply Ext.drewN | apply Ext.drew | apply Ext.alloc)) xw1
      have Xw1 : Ext w w1 := Lw1
      have c10 : w1.cell? ⟨w.heap.size, 0, none⟩ = some (.int .i64 b1) := xw1.cell (by first | (simp; done) | (rw [World.cell?_alloc_lt _ _ _ (by simp)]; simp; done) | (go_simp; done))
      have c11 : w1.cell? ⟨w.heap.size, 1, none⟩ = some (.slice a1 s1.length c1) := xw1.cell (by first | (simp; done) | (rw [World.cell?_alloc_lt _ _ _ (by simp)]; simp; done) | (go_simp; done))
      have c12 : w1.cell? ⟨w.heap.size, 2, none⟩ = some (v1) := xw1.cell (by first | (simp; done) | (rw [World.cell?_alloc_lt _ _ _ (by simp)]; simp; done) | (go_simp; done))
      have z1 : w.heap.size < w1.heap.size := World.block_lt_of_cell? _ _ c10
      have sw1 : w.heap.size ≤ w1.heap.size := Lw1.size
      rw [ha'.out]
      have R1 := xw1.rule
      have F1 := xw1.frule
      have zz : w.heap.size + 1 < w1.heap.size := by have := xw1.size; simp at this; omega
      go_wp2_with fail
      refine bodyPost_ret (v := .agg #[.int .i64 (0), .int .i64 (0), .int .i64 (0)]) (by simp only [results, Try.results90]; go_simp) rfl ⟨?_, ?_⟩
      · rw [hr.out]
      · exact ((Xw1.setCell (by simp) _).setCell (by simp) _).setCell (by simp) _

set_option maxHeartbeats 1600000 in
theorem specLineOf_c (b1 : Int) (u1 v1 : Value) (s1 t1 : List Int) (w : World) (l1 m1 : Nat) (h1 : Ints w l1 u1 s1) (k1 : Ints w m1 v1 t1) :
    Calls Try.prog 89 #[.agg #[.int .i64 b1, u1, v1]] w (fun e w' => e = .returned (.agg #[.int .i64 (lineT b1 s1 t1).1, .int .i64 (lineT b1 s1 t1).2.1, .int .i64 (lineT b1 s1 t1).2.2]) ∧ Ext w w') := by
  cases ha : viewB b1 s1 t1
  · have hr := Lib.hid (show lineT b1 s1 t1 = (0, 0, 0) by unfold lineT; rw [ha]; rfl)
    go_enter Try.func89, Try.ntmps89
    go_wp2_with fail
    refine (validView_c b1 _ _ s1 t1 _ l1 m1 (h1.ext (by repeat (first | exact Ext.refl _ | assumption | apply Ext.drewN | apply Ext.drew | apply Ext.alloc))) (k1.ext (by repeat (first | exact Ext.refl _ | assumption | apply Ext.drewN | apply Ext.drew | apply Ext.alloc)))).mono ?_
    rintro e w1 ⟨rfl, xw1⟩
    have Lw1 : Ext w w1 := Ext.trans (by repeat (first | exact Ext.refl _ | assumption | apply Ext.drewN | apply Ext.drew | apply Ext.alloc)) xw1
    have Xw1 : Ext w w1 := Lw1
    have c10 : w1.cell? ⟨w.heap.size, 0, none⟩ = some (.int .i64 b1) := xw1.cell (by first | (simp; done) | (rw [World.cell?_alloc_lt _ _ _ (by simp)]; simp; done) | (go_simp; done))
    have c11 : w1.cell? ⟨w.heap.size, 1, none⟩ = some (u1) := xw1.cell (by first | (simp; done) | (rw [World.cell?_alloc_lt _ _ _ (by simp)]; simp; done) | (go_simp; done))
    have c12 : w1.cell? ⟨w.heap.size, 2, none⟩ = some (v1) := xw1.cell (by first | (simp; done) | (rw [World.cell?_alloc_lt _ _ _ (by simp)]; simp; done) | (go_simp; done))
    have z1 : w.heap.size < w1.heap.size := World.block_lt_of_cell? _ _ c10
    have sw1 : w.heap.size ≤ w1.heap.size := Lw1.size
    rw [ha]
    have zz : w.heap.size + 1 < w1.heap.size := by have := xw1.size; simp at this; omega
    have R1 := xw1.rule
    have F1 := xw1.frule
    go_wp2_with fail
    refine bodyPost_ret (v := .agg #[.int .i64 (0), .int .i64 (0), .int .i64 (0)]) (by simp only [results, Try.results89]; go_simp) rfl ⟨?_, ?_⟩
    · rw [hr.out]
    · exact ((Xw1.setCell (by simp) _).setCell (by simp) _).setCell (by simp) _
  · have ha' := Lib.hid ha
    clear ha
    obtain ⟨a1, c1, rfl⟩ := h1.form
    by_cases hs : s1.length = 1
    · have hr := Lib.hid (show lineT b1 s1 t1 = normL (cellsL b1 s1 t1) by unfold lineT; rw [ha'.out, decide_eq_true hs]; rfl)
      have hs' : ((s1.length : Int) == 1) = true := by simp; omega
      have hs2 : ((s1.length : Int) != 1) = false := by simp; omega
      replace hs := Lib.hid hs
      go_enter Try.func89, Try.ntmps89
      go_wp2_with fail
      refine (validView_c b1 _ _ s1 t1 _ l1 m1 (h1.ext (by repeat (first | exact Ext.refl _ | assumption | apply Ext.drewN | apply Ext.drew | apply Ext.alloc))) (k1.ext (by repeat (first | exact Ext.refl _ | assumption | apply Ext.drewN | apply Ext.drew | apply Ext.alloc)))).mono ?_
      rintro e w1 ⟨rfl, xw1⟩
      have Lw1 : Ext w w1 := Ext.trans (by repeat (first | exact Ext.refl _ | assumption | apply Ext.drewN | apply Ext.drew | apply Ext.alloc)) xw1
      have Xw1 : Ext w w1 := Lw1
      have c10 : w1.cell? ⟨w.heap.size, 0, none⟩ = some (.int .i64 b1) := xw1.cell (by first | (simp; done) | (rw [World.cell?_alloc_lt _ _ _ (by simp)]; simp; done) | (go_simp; done))
      have c11 : w1.cell? ⟨w.heap.size, 1, none⟩ = some (.slice a1 s1.length c1) := xw1.cell (by first | (simp; done) | (rw [World.cell?_alloc_lt _ _ _ (by simp)]; simp; done) | (go_simp; done))
      have c12 : w1.cell? ⟨w.heap.size, 2, none⟩ = some (v1) := xw1.cell (by first | (simp; done) | (rw [World.cell?_alloc_lt _ _ _ (by simp)]; simp; done) | (go_simp; done))
      have z1 : w.heap.size < w1.heap.size := World.block_lt_of_cell? _ _ c10
      have sw1 : w.heap.size ≤ w1.heap.size := Lw1.size
      rw [ha'.out]
      have R1 := xw1.rule
      have F1 := xw1.frule
      have zz : w.heap.size + 1 < w1.heap.size := by have := xw1.size; simp at this; omega
      go_wp2_with fail
      refine (used_c b1 _ _ s1 t1 _ l1 m1 (h1.ext (Xw1.trans (by repeat (first | exact Ext.refl _ | assumption | apply Ext.drewN | apply Ext.drew | apply Ext.alloc)))) (k1.ext (Xw1.trans (by repeat (first | exact Ext.refl _ | assumption | apply Ext.drewN | apply Ext.drew | apply Ext.alloc)))) ha'.out).mono ?_
      rintro e w2 ⟨r2, rfl, i2, _, xw2⟩
      have Lw2 : Ext w1 w2 := Ext.trans (by repeat (first | exact Ext.refl _ | assumption | apply Ext.drewN | apply Ext.drew | apply Ext.alloc)) xw2
      have Xw2 : Ext w w2 := Xw1.trans Lw2
      replace c10 := Lw2.cell c10
      replace c11 := Lw2.cell c11
      replace c12 := Lw2.cell c12
      have z2 : w.heap.size < w2.heap.size := World.block_lt_of_cell? _ _ c10
      have sw2 : w1.heap.size ≤ w2.heap.size := Lw2.size
      have R2 := xw2.rule
      have F2 := xw2.frule
      have zz2 : w.heap.size + 1 < w2.heap.size := by omega
      go_wp2_with fail
      refine (normal_c _ _ _ _ (i2.ext (by repeat (first | exact Ext.refl _ | assumption | apply Ext.drewN | apply Ext.drew | apply Ext.alloc))) (fun x hx => by have := cells_in2 ha'.out x hx; omega)).mono ?_
      rintro e w3 ⟨rfl, xw3⟩
      have Lw3 : Ext w2 w3 := Ext.trans (by repeat (first | exact Ext.refl _ | assumption | apply Ext.drewN | apply Ext.drew | apply Ext.alloc)) xw3
      have Xw3 : Ext w w3 := Xw2.trans Lw3
      replace c10 := Lw3.cell c10
      replace c11 := Lw3.cell c11
      replace c12 := Lw3.cell c12
      have z3 : w.heap.size < w3.heap.size := World.block_lt_of_cell? _ _ c10
      have sw3 : w2.heap.size ≤ w3.heap.size := Lw3.size
      have R3 := xw3.rule
      have F3 := xw3.frule
      have zz3 : w.heap.size + 1 < w3.heap.size := by omega
      go_wp2_with fail
      refine bodyPost_ret (v := .agg #[.int .i64 ((normL (cellsL b1 s1 t1)).1), .int .i64 ((normL (cellsL b1 s1 t1)).2.1), .int .i64 ((normL (cellsL b1 s1 t1)).2.2)]) (by simp only [results, Try.results89]; go_simp) rfl ⟨?_, ?_⟩
      · rw [hr.out]
      · exact ((Xw3.setCell (by simp) _).setCell (by simp) _).setCell (by simp) _
    · have hr := Lib.hid (show lineT b1 s1 t1 = (0, 0, 0) by unfold lineT; rw [decide_eq_false hs, Bool.and_false]; rfl)
      have hs' : ((s1.length : Int) == 1) = false := by simp; omega
      have hs2 : ((s1.length : Int) != 1) = true := by simp; omega
      clear hs
      go_enter Try.func89, Try.ntmps89
      go_wp2_with fail
      refine (validView_c b1 _ _ s1 t1 _ l1 m1 (h1.ext (by repeat (first | exact Ext.refl _ | assumption | apply Ext.drewN | apply Ext.drew | apply Ext.alloc))) (k1.ext (by repeat (first | exact Ext.refl _ | assumption | apply Ext.drewN | apply Ext.drew | apply Ext.alloc)))).mono ?_
      rintro e w1 ⟨rfl, xw1⟩
      have Lw1 : Ext w w1 := Ext.trans (by repeat (first | exact Ext.refl _ | assumption | apply Ext.drewN | apply Ext.drew | apply Ext.alloc)) xw1
      have Xw1 : Ext w w1 := Lw1
      have c10 : w1.cell? ⟨w.heap.size, 0, none⟩ = some (.int .i64 b1) := xw1.cell (by first | (simp; done) | (rw [World.cell?_alloc_lt _ _ _ (by simp)]; simp; done) | (go_simp; done))
      have c11 : w1.cell? ⟨w.heap.size, 1, none⟩ = some (.slice a1 s1.length c1) := xw1.cell (by first | (simp; done) | (rw [World.cell?_alloc_lt _ _ _ (by simp)]; simp; done) | (go_simp; done))
      have c12 : w1.cell? ⟨w.heap.size, 2, none⟩ = some (v1) := xw1.cell (by first | (simp; done) | (rw [World.cell?_alloc_lt _ _ _ (by simp)]; simp; done) | (go_simp; done))
      have z1 : w.heap.size < w1.heap.size := World.block_lt_of_cell? _ _ c10
      have sw1 : w.heap.size ≤ w1.heap.size := Lw1.size
      rw [ha'.out]
      have R1 := xw1.rule
      have F1 := xw1.frule
      have zz : w.heap.size + 1 < w1.heap.size := by have := xw1.size; simp at this; omega
      go_wp2_with fail
      refine bodyPost_ret (v := .agg #[.int .i64 (0), .int .i64 (0), .int .i64 (0)]) (by simp only [results, Try.results89]; go_simp) rfl ⟨?_, ?_⟩
      · rw [hr.out]
      · exact ((Xw1.setCell (by simp) _).setCell (by simp) _).setCell (by simp) _

end Go.Proofs.Ytfdpoepidlmbaaa
