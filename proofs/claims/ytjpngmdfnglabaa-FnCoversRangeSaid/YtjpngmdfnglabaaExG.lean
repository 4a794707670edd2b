/- Walks: normal forms of ranges, LineOf of the program and of the reference, comparison of ranges. -/
import Derived.Test.YtjpngmdfnglabaaViewG
import Derived.Test.YtjpngmdfnglabaaLp
import Derived.Test.YtjpngmdfnglabaaExD
namespace Go.Proofs.Ytjpngmdfnglabaa
open Go.RowKit
set_option linter.unusedVariables false
set_option maxRecDepth 100000

theorem Ints.head {w : World} {lo : Nat} {v : Value} {xs : List Int} (h : Ints w lo v xs) (hn : 0 < xs.length) : ∃ b off c, v = .slice (some ⟨b, off, none⟩) xs.length c ∧ w.cell? ⟨b, off, none⟩ = some (.int .i64 (xs.getD 0 0)) := by
  obtain ⟨a, cap, rfl, _, _, _, h4⟩ := h
  obtain ⟨b, off, rfl, _, hc, _⟩ := h4 0 hn
  exact ⟨b, off, cap, rfl, hc⟩

set_option maxHeartbeats 3200000 in
theorem normalOf_c (xs : List Int) (v : Value) (w : World) (lo : Nat) (hv : Ints w lo v xs) (hb : ∀ x ∈ xs, -1000000 ≤ x ∧ x ≤ 1000000) :
    Calls Try.prog 52 #[v] w (fun e w' => e = .returned (.agg #[.int .i64 (normL xs).1, .int .i64 (normL xs).2.1, .int .i64 (normL xs).2.2]) ∧ Ext w w') := by
  rcases xs with _ | ⟨x, _ | ⟨y, r⟩⟩
  · obtain ⟨a, cap, rfl, _⟩ := hv
    go_enter Try.func52, Try.ntmps52
    go_wp2_with fail
    refine bodyPost_ret (v := .agg #[.int .i64 (0), .int .i64 (0), .int .i64 (1)]) (by simp only [results, Try.results52]; go_simp) rfl ⟨?_, (by repeat (first | exact Ext.refl _ | assumption | apply Ext.drewN | apply Ext.drew | apply Ext.alloc | (refine Ext.setCell ?_ (by simp) _)))⟩
    rfl
  · obtain ⟨b, off, c, rfl, hcell⟩ := hv.head (by simp)
    have hx := hb x (List.mem_cons_self ..)
    have hnn := World.new_ne _ _ hcell
    have e1 : IntKind.i64.wrap (x + 1) = x + 1 := IntWalk.i64_in _ (by omega)
    simp at hcell
    go_enter Try.func52, Try.ntmps52
    go_wp2_with fail
    go_region_held3 (fun w' => w'.cell? ⟨b, off, none⟩ = some (.int .i64 x)) (go_keep) (fail)
    go_wp2_with fail
    refine bodyPost_ret (v := .agg #[.int .i64 (x), .int .i64 (x + 1), .int .i64 (1)]) (by simp only [results, Try.results52]; go_simp) rfl ⟨?_, (by repeat (first | exact Ext.refl _ | assumption | apply Ext.drewN | apply Ext.drew | apply Ext.alloc | (refine Ext.setCell ?_ (by simp) _)))⟩
    rfl
  · obtain ⟨a, c, hv', hlc, hcm, ⟨hlen, _⟩, hc⟩ := hv
    subst hv'
    obtain ⟨b, off, rfl, _, hcell, _⟩ := hc 0 (by simp)
    obtain ⟨_, _, hh, _, hcell1, _⟩ := hc 1 (by simp)
    cases hh
    obtain ⟨_, _, hh, _, hcell2, _⟩ := hc (r.length + 1) (by simp)
    cases hh
    have hx := hb x (List.mem_cons_self ..)
    have hy := hb y (List.mem_cons_of_mem _ (List.mem_cons_self ..))
    have hz := hb _ (List.mem_cons_of_mem _ (List.getLast_mem (l := y :: r) (by simp)))
    have hg : (x :: y :: r).getD (r.length + 1) 0 = (y :: r).getLast (by simp) := by rw [List.getLast_eq_getElem]; simp
    rw [hg] at hcell2
    have hll : (x :: y :: r).length = r.length + 2 := by simp
    have hN : normL (x :: y :: r) = (x, if y - x < 0 then (y :: r).getLast (by simp) - 1 else (y :: r).getLast (by simp) + 1, y - x) := rfl
    generalize (y :: r).getLast (by simp) = z at *
    replace hN := Lib.hid hN
    have hn2 : 2 ≤ (x :: y :: r).length := by omega
    rw [show r.length + 1 = (x :: y :: r).length - 1 by omega] at hcell2
    generalize (x :: y :: r).length = n at *
    simp at hcell hcell1
    have hnn := World.new_ne _ _ hcell
    have hnn : w.heap.size ≠ b := hnn
    have e1 : IntKind.i64.wrap (z + 1) = z + 1 := IntWalk.i64_in _ (by omega)
    have e2 : IntKind.i64.wrap (y - x) = y - x := IntWalk.i64_in _ (by omega)
    have e3 : IntKind.i64.wrap ((n : Int) - 1) = (n : Int) - 1 := IntWalk.i64_in _ (by omega)
    have e4 : ((n : Int) - 1).toNat = n - 1 := by omega
    have e5 : (0 : Int) ≤ (n : Int) - 1 := by omega
    have e6 : (n : Int) - 1 < n := by omega
    have e7 : (0 : Int) < n := by omega
    have e8 : (1 : Int) < n := by omega
    have e9 : (1 : Int) ≤ n := by omega
    have e10 : 0 < n := by omega
    have e11 : 1 ≤ n := by omega
    have e12 : 1 < n := by omega
    clear hc hg hll hb hcm hlen hlc hn2
    obtain ⟨hz1, hz2⟩ := hz
    obtain ⟨hx1, hx2⟩ := hx
    obtain ⟨hy1, hy2⟩ := hy
    by_cases hs : y - x < 0
    · have hN' := Lib.hid (show normL (x :: y :: r) = (x, z - 1, y - x) by rw [hN.out, if_pos hs])
      go_enter Try.func52, Try.ntmps52
      go_wp2_with fail
      go_region_held3 (fun w' => w'.cell? ⟨b, off, none⟩ = some (.int .i64 x) ∧ w'.cell? ⟨b, off + 1, none⟩ = some (.int .i64 y) ∧ w'.cell? ⟨b, off + (n - 1), none⟩ = some (.int .i64 z)) (go_keep) (fail)
      go_wp2_with fail
      refine bodyPost_ret (v := .agg #[.int .i64 (x), .int .i64 (z + 1 - 2), .int .i64 (y - x)]) (by simp only [results, Try.results52]; go_simp) rfl ⟨?_, (by repeat (first | exact Ext.refl _ | assumption | apply Ext.drewN | apply Ext.drew | apply Ext.alloc | (refine Ext.setCell ?_ (by simp) _)))⟩
      rw [hN'.out, show z + 1 - 2 = z - 1 by omega]
    · have hN' := Lib.hid (show normL (x :: y :: r) = (x, z + 1, y - x) by rw [hN.out, if_neg hs])
      go_enter Try.func52, Try.ntmps52
      go_wp2_with fail
      go_region_held3 (fun w' => w'.cell? ⟨b, off, none⟩ = some (.int .i64 x) ∧ w'.cell? ⟨b, off + 1, none⟩ = some (.int .i64 y) ∧ w'.cell? ⟨b, off + (n - 1), none⟩ = some (.int .i64 z)) (go_keep) (fail)
      go_wp2_with fail
      refine bodyPost_ret (v := .agg #[.int .i64 (x), .int .i64 (z + 1), .int .i64 (y - x)]) (by simp only [results, Try.results52]; go_simp) rfl ⟨?_, (by repeat (first | exact Ext.refl _ | assumption | apply Ext.drewN | apply Ext.drew | apply Ext.alloc | (refine Ext.setCell ?_ (by simp) _)))⟩
      rw [hN'.out]

set_option maxHeartbeats 3200000 in
theorem normal_c (xs : List Int) (v : Value) (w : World) (lo : Nat) (hv : Ints w lo v xs) (hb : ∀ x ∈ xs, -1000000 ≤ x ∧ x ≤ 1000000) :
    Calls Try.prog 54 #[v] w (fun e w' => e = .returned (.agg #[.int .i64 (normL xs).1, .int .i64 (normL xs).2.1, .int .i64 (normL xs).2.2]) ∧ Ext w w') := by
  rcases xs with _ | ⟨x, _ | ⟨y, r⟩⟩
  · obtain ⟨a, cap, rfl, _⟩ := hv
    go_enter Try.func54, Try.ntmps54
    go_wp2_with fail
    refine bodyPost_ret (v := .agg #[.int .i64 (0), .int .i64 (0), .int .i64 (1)]) (by simp only [results, Try.results54]; go_simp) rfl ⟨?_, (by repeat (first | exact Ext.refl _ | assumption | apply Ext.drewN | apply Ext.drew | apply Ext.alloc | (refine Ext.setCell ?_ (by simp) _)))⟩
    rfl
  · obtain ⟨b, off, c, rfl, hcell⟩ := hv.head (by simp)
    have hx := hb x (List.mem_cons_self ..)
    have hnn := World.new_ne _ _ hcell
    have e1 : IntKind.i64.wrap (x + 1) = x + 1 := IntWalk.i64_in _ (by omega)
    simp at hcell
    go_enter Try.func54, Try.ntmps54
    go_wp2_with fail
    go_region_held3 (fun w' => w'.cell? ⟨b, off, none⟩ = some (.int .i64 x)) (go_keep) (fail)
    go_wp2_with fail
    refine bodyPost_ret (v := .agg #[.int .i64 (x), .int .i64 (x + 1), .int .i64 (1)]) (by simp only [results, Try.results54]; go_simp) rfl ⟨?_, (by repeat (first | exact Ext.refl _ | assumption | apply Ext.drewN | apply Ext.drew | apply Ext.alloc | (refine Ext.setCell ?_ (by simp) _)))⟩
    rfl
  · obtain ⟨a, c, hv', hlc, hcm, ⟨hlen, _⟩, hc⟩ := hv
    subst hv'
    obtain ⟨b, off, rfl, _, hcell, _⟩ := hc 0 (by simp)
    obtain ⟨_, _, hh, _, hcell1, _⟩ := hc 1 (by simp)
    cases hh
    obtain ⟨_, _, hh, _, hcell2, _⟩ := hc (r.length + 1) (by simp)
    cases hh
    have hx := hb x (List.mem_cons_self ..)
    have hy := hb y (List.mem_cons_of_mem _ (List.mem_cons_self ..))
    have hz := hb _ (List.mem_cons_of_mem _ (List.getLast_mem (l := y :: r) (by simp)))
    have hg : (x :: y :: r).getD (r.length + 1) 0 = (y :: r).getLast (by simp) := by rw [List.getLast_eq_getElem]; simp
    rw [hg] at hcell2
    have hll : (x :: y :: r).length = r.length + 2 := by simp
    have hN : normL (x :: y :: r) = (x, if y - x < 0 then (y :: r).getLast (by simp) - 1 else (y :: r).getLast (by simp) + 1, y - x) := rfl
    generalize (y :: r).getLast (by simp) = z at *
    replace hN := Lib.hid hN
    have hn2 : 2 ≤ (x :: y :: r).length := by omega
    rw [show r.length + 1 = (x :: y :: r).length - 1 by omega] at hcell2
    generalize (x :: y :: r).length = n at *
    simp at hcell hcell1
    have hnn := World.new_ne _ _ hcell
    have hnn : w.heap.size ≠ b := hnn
    have e1 : IntKind.i64.wrap (z + 1) = z + 1 := IntWalk.i64_in _ (by omega)
    have e2 : IntKind.i64.wrap (y - x) = y - x := IntWalk.i64_in _ (by omega)
    have e3 : IntKind.i64.wrap ((n : Int) - 1) = (n : Int) - 1 := IntWalk.i64_in _ (by omega)
    have e4 : ((n : Int) - 1).toNat = n - 1 := by omega
    have e5 : (0 : Int) ≤ (n : Int) - 1 := by omega
    have e6 : (n : Int) - 1 < n := by omega
    have e7 : (0 : Int) < n := by omega
    have e8 : (1 : Int) < n := by omega
    have e9 : (1 : Int) ≤ n := by omega
    have e10 : 0 < n := by omega
    have e11 : 1 ≤ n := by omega
    have e12 : 1 < n := by omega
    clear hc hg hll hb hcm hlen hlc hn2
    obtain ⟨hz1, hz2⟩ := hz
    obtain ⟨hx1, hx2⟩ := hx
    obtain ⟨hy1, hy2⟩ := hy
    by_cases hs : y - x < 0
    · have hN' := Lib.hid (show normL (x :: y :: r) = (x, z - 1, y - x) by rw [hN.out, if_pos hs])
      go_enter Try.func54, Try.ntmps54
      go_wp2_with fail
      go_region_held3 (fun w' => w'.cell? ⟨b, off, none⟩ = some (.int .i64 x) ∧ w'.cell? ⟨b, off + 1, none⟩ = some (.int .i64 y) ∧ w'.cell? ⟨b, off + (n - 1), none⟩ = some (.int .i64 z)) (go_keep) (fail)
      go_wp2_with fail
      refine bodyPost_ret (v := .agg #[.int .i64 (x), .int .i64 (z - 1), .int .i64 (y - x)]) (by simp only [results, Try.results54]; go_simp) rfl ⟨?_, (by repeat (first | exact Ext.refl _ | assumption | apply Ext.drewN | apply Ext.drew | apply Ext.alloc | (refine Ext.setCell ?_ (by simp) _)))⟩
      rw [hN'.out]
    · have hN' := Lib.hid (show normL (x :: y :: r) = (x, z + 1, y - x) by rw [hN.out, if_neg hs])
      go_enter Try.func54, Try.ntmps54
      go_wp2_with fail
      go_region_held3 (fun w' => w'.cell? ⟨b, off, none⟩ = some (.int .i64 x) ∧ w'.cell? ⟨b, off + 1, none⟩ = some (.int .i64 y) ∧ w'.cell? ⟨b, off + (n - 1), none⟩ = some (.int .i64 z)) (go_keep) (fail)
      go_wp2_with fail
      refine bodyPost_ret (v := .agg #[.int .i64 (x), .int .i64 (z + 1), .int .i64 (y - x)]) (by simp only [results, Try.results54]; go_simp) rfl ⟨?_, (by repeat (first | exact Ext.refl _ | assumption | apply Ext.drewN | apply Ext.drew | apply Ext.alloc | (refine Ext.setCell ?_ (by simp) _)))⟩
      rw [hN'.out]

def lineT (b : Int) (s t : List Int) : Int × Int × Int := if viewB b s t && decide (s.length = 1) then normL (cellsL b s t) else (0, 0, 0)
theorem cells_in2 {b : Int} {s t : List Int} (h : viewB b s t = true) : ∀ x ∈ cellsL b s t, 0 ≤ x ∧ x ≤ 59 := fun x hx => (viewB_in h).2.2.2.2 x (((cellsL_spec b s t).2 x).1 hx)

end Go.Proofs.Ytjpngmdfnglabaa
