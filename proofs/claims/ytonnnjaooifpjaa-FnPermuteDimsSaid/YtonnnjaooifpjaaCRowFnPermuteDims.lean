/- Texts of these proofs put together: LawFnPermuteDims, RowFnPermuteDims. No condition. -/
import Derived.Test.YtonnnjaooifpjaaD1RowFnPermuteDims
import Derived.Test.YtonnnjaooifpjaaM4
import Derived.Test.YtonnnjaooifpjaaM5
set_option linter.unusedVariables false
set_option linter.unusedSimpArgs false
/- FnPermuteDims returns true for all bytes: no condition. -/
namespace Go.Proofs.Ytonnnjaooifpjaa
open Go.RowKit
set_option linter.unusedVariables false
set_option maxRecDepth 100000


theorem cnt_law {s : List Int} (h : shapeB s = true) : cntA s = countL s := by unfold cntA; rw [h]; rfl
theorem inv_step {ord : List Int} {k j : Nat} (hk : k < ord.length) (hj : ord.getD k 0 = (j : Int)) : putUp (List.replicate ord.length 0) ord (upL ord.length) (k+1) = (putUp (List.replicate ord.length 0) ord (upL ord.length) k).set j (k : Int) := by
  rw [putUp_succ, hj, upL_get _ _ hk, Int.toNat_natCast]

set_option maxHeartbeats 6400000 in
theorem lawFnPermuteDims_c (a : Option Addr) (n cap : Nat) (w : World) (hb : BysIn w a n cap) :
    Calls Try.prog 13 #[.slice a n cap] w fun e w' => e = .returned (.bool true) ∧ Ext w w' := by
  have hcm := hb.1
  have hcm2 := hb.2.1
  unfold maxLen at hcm2
  go_enter Try.func13, Try.ntmps13
  by_cases hc1 : (1048576 : Int) < (n : Int)
  · go_wp2_with fail
    go_ret
    exact ⟨rfl, (by repeat (first | exact Ext.refl _ | assumption | apply Ext.drewN | apply Ext.drew | apply Ext.alloc))⟩
  · go_wp2_with fail
    refine (drawPermuteDims_c a n cap _ hb).mono ?_
    rintro e w1 ⟨⟨b, s, t, p1, p2, r1, r2, ix, p3, r3, rfl, i1, i2, l1, l2, i3, l3⟩, xw1⟩
    have Lw1 : Ext w w1 := Ext.trans (by repeat (first | (with_reducible assumption) | (with_reducible refine Ext.setCell ?_ (by first | (simp; done) | (simp; omega) | omega) _) | (with_reducible apply Ext.alloc) | (with_reducible apply Ext.drew) | (with_reducible apply Ext.drewN) | (with_reducible exact Ext.refl _))) xw1
    have Xw1 : Ext w w1 := Lw1
    have s_w1 : w.heap.size ≤ w1.heap.size := Xw1.size
    clear xw1
    clear hb
    obtain ⟨PB, PS, PT, PO, hP⟩ : ∃ PB PS PT PO, permV b s t ix = (PB, PS, PT, PO) := ⟨_, _, _, _, rfl⟩
    cases PO
    · replace hP := Lib.hid hP
      go_wp2_with fail
      refine (pv_eq hP.out (implPermuteDims_c b (.slice p1 s.length r1) (.slice p2 t.length r2) s t (.slice p3 ix.length r3) ix _ _ _ (i1.ext (by repeat (first | (with_reducible assumption) | (with_reducible refine Ext.setCell ?_ (by first | (simp; done) | (simp; omega) | omega) _) | (with_reducible apply Ext.alloc) | (with_reducible apply Ext.drew) | (with_reducible apply Ext.drewN) | (with_reducible exact Ext.refl _)))) (i2.ext (by repeat (first | (with_reducible assumption) | (with_reducible refine Ext.setCell ?_ (by first | (simp; done) | (simp; omega) | omega) _) | (with_reducible apply Ext.alloc) | (with_reducible apply Ext.drew) | (with_reducible apply Ext.drewN) | (with_reducible exact Ext.refl _)))) _ (i3.ext (by repeat (first | (with_reducible assumption) | (with_reducible refine Ext.setCell ?_ (by first | (simp; done) | (simp; omega) | omega) _) | (with_reducible apply Ext.alloc) | (with_reducible apply Ext.drew) | (with_reducible apply Ext.drewN) | (with_reducible exact Ext.refl _)))))).mono ?_
      rintro e w2 ⟨fv3u, fv3v, rfl, i4u, i4v, -, -, -, xw2⟩
      have Lw2 : Ext w1 w2 := Ext.trans (by repeat (first | (with_reducible assumption) | (with_reducible refine Ext.setCell ?_ (by first | (simp; done) | (simp; omega) | omega) _) | (with_reducible apply Ext.alloc) | (with_reducible apply Ext.drew) | (with_reducible apply Ext.drewN) | (with_reducible exact Ext.refl _))) xw2
      have Xw2 : Ext w w2 := Xw1.trans Lw2
      have b20 : w2.cell? ⟨w1.heap.size, 0, none⟩ = some (.int .i64 b) := xw2.cell (by first | (simp; done) | ((repeat rw [World.cell?_alloc_lt _ _ _ (by simp <;> omega)]); simp; done) | (go_simp; done))
      have b21 : w2.cell? ⟨w1.heap.size, 1, none⟩ = some (.slice p1 s.length r1) := xw2.cell (by first | (simp; done) | ((repeat rw [World.cell?_alloc_lt _ _ _ (by simp <;> omega)]); simp; done) | (go_simp; done))
      have b22 : w2.cell? ⟨w1.heap.size, 2, none⟩ = some (.slice p2 t.length r2) := xw2.cell (by first | (simp; done) | ((repeat rw [World.cell?_alloc_lt _ _ _ (by simp <;> omega)]); simp; done) | (go_simp; done))
      have z_b2 : w1.heap.size < w2.heap.size := World.block_lt_of_cell? _ _ b20
      replace i1 := i1.ext Lw2
      replace i2 := i2.ext Lw2
      replace i3 := i3.ext Lw2
      have s_w2 : w.heap.size ≤ w2.heap.size := Xw2.size
      clear xw2
      obtain ⟨afv3u, cfv3u, rfl⟩ := i4u.form
      obtain ⟨afv3v, cfv3v, rfl⟩ := i4v.form
      go_wp2_with fail
      refine (pv_eq hP.out (specPermuteDims_c b (.slice p1 s.length r1) (.slice p2 t.length r2) s t (.slice p3 ix.length r3) ix _ _ _ (i1.ext (by repeat (first | (with_reducible assumption) | (with_reducible refine Ext.setCell ?_ (by first | (simp; done) | (simp; omega) | omega) _) | (with_reducible apply Ext.alloc) | (with_reducible apply Ext.drew) | (with_reducible apply Ext.drewN) | (with_reducible exact Ext.refl _)))) (i2.ext (by repeat (first | (with_reducible assumption) | (with_reducible refine Ext.setCell ?_ (by first | (simp; done) | (simp; omega) | omega) _) | (with_reducible apply Ext.alloc) | (with_reducible apply Ext.drew) | (with_reducible apply Ext.drewN) | (with_reducible exact Ext.refl _)))) _ (i3.ext (by repeat (first | (with_reducible assumption) | (with_reducible refine Ext.setCell ?_ (by first | (simp; done) | (simp; omega) | omega) _) | (with_reducible apply Ext.alloc) | (with_reducible apply Ext.drew) | (with_reducible apply Ext.drewN) | (with_reducible exact Ext.refl _)))))).mono ?_
      rintro e w3 ⟨fv6u, fv6v, rfl, i7u, i7v, -, -, -, xw3⟩
      have Lw3 : Ext w2 w3 := Ext.trans (by repeat (first | (with_reducible assumption) | (with_reducible refine Ext.setCell ?_ (by first | (simp; done) | (simp; omega) | omega) _) | (with_reducible apply Ext.alloc) | (with_reducible apply Ext.drew) | (with_reducible apply Ext.drewN) | (with_reducible exact Ext.refl _))) xw3
      have Xw3 : Ext w w3 := Xw2.trans Lw3
      replace b20 := Lw3.cell b20
      replace b21 := Lw3.cell b21
      replace b22 := Lw3.cell b22
      have b50 : w3.cell? ⟨w2.heap.size, 0, none⟩ = some (.int .i64 PB) := xw3.cell (by first | (simp; done) | ((repeat rw [World.cell?_alloc_lt _ _ _ (by simp <;> omega)]); simp; done) | (go_simp; done))
      have b51 : w3.cell? ⟨w2.heap.size, 1, none⟩ = some (.slice afv3u PS.length cfv3u) := xw3.cell (by first | (simp; done) | ((repeat rw [World.cell?_alloc_lt _ _ _ (by simp <;> omega)]); simp; done) | (go_simp; done))
      have b52 : w3.cell? ⟨w2.heap.size, 2, none⟩ = some (.slice afv3v PT.length cfv3v) := xw3.cell (by first | (simp; done) | ((repeat rw [World.cell?_alloc_lt _ _ _ (by simp <;> omega)]); simp; done) | (go_simp; done))
      have z_b2 : w1.heap.size < w3.heap.size := World.block_lt_of_cell? _ _ b20
      have z_b5 : w2.heap.size < w3.heap.size := World.block_lt_of_cell? _ _ b50
      replace i1 := i1.ext Lw3
      replace i2 := i2.ext Lw3
      replace i3 := i3.ext Lw3
      replace i4u := i4u.ext Lw3
      replace i4v := i4v.ext Lw3
      have s_w3 : w.heap.size ≤ w3.heap.size := Xw3.size
      clear xw3
      obtain ⟨afv6u, cfv6u, rfl⟩ := i7u.form
      obtain ⟨afv6v, cfv6v, rfl⟩ := i7v.form
      go_wp2_with fail
      refine (leqView_c PB (.slice afv3u PS.length cfv3u) (.slice afv3v PT.length cfv3v) (.slice afv6u PS.length cfv6u) (.slice afv6v PT.length cfv6v) PS PT _ _ _ _ _ (i4u.ext (by repeat (first | (with_reducible assumption) | (with_reducible refine Ext.setCell ?_ (by first | (simp; done) | (simp; omega) | omega) _) | (with_reducible apply Ext.alloc) | (with_reducible apply Ext.drew) | (with_reducible apply Ext.drewN) | (with_reducible exact Ext.refl _)))) (i4v.ext (by repeat (first | (with_reducible assumption) | (with_reducible refine Ext.setCell ?_ (by first | (simp; done) | (simp; omega) | omega) _) | (with_reducible apply Ext.alloc) | (with_reducible apply Ext.drew) | (with_reducible apply Ext.drewN) | (with_reducible exact Ext.refl _)))) (i7u.ext (by repeat (first | (with_reducible assumption) | (with_reducible refine Ext.setCell ?_ (by first | (simp; done) | (simp; omega) | omega) _) | (with_reducible apply Ext.alloc) | (with_reducible apply Ext.drew) | (with_reducible apply Ext.drewN) | (with_reducible exact Ext.refl _)))) (i7v.ext (by repeat (first | (with_reducible assumption) | (with_reducible refine Ext.setCell ?_ (by first | (simp; done) | (simp; omega) | omega) _) | (with_reducible apply Ext.alloc) | (with_reducible apply Ext.drew) | (with_reducible apply Ext.drewN) | (with_reducible exact Ext.refl _))))).mono ?_
      rintro e w4 ⟨rfl, xw4⟩
      have Lw4 : Ext w3 w4 := Ext.trans (by repeat (first | (with_reducible assumption) | (with_reducible refine Ext.setCell ?_ (by first | (simp; done) | (simp; omega) | omega) _) | (with_reducible apply Ext.alloc) | (with_reducible apply Ext.drew) | (with_reducible apply Ext.drewN) | (with_reducible exact Ext.refl _))) xw4
      have Xw4 : Ext w w4 := Xw3.trans Lw4
      replace b20 := Lw4.cell b20
      replace b21 := Lw4.cell b21
      replace b22 := Lw4.cell b22
      replace b50 := Lw4.cell b50
      replace b51 := Lw4.cell b51
      replace b52 := Lw4.cell b52
      have b80 : w4.cell? ⟨w3.heap.size, 0, none⟩ = some (.int .i64 PB) := xw4.cell (by first | (simp; done) | ((repeat rw [World.cell?_alloc_lt _ _ _ (by simp <;> omega)]); simp; done) | (go_simp; done))
      have b81 : w4.cell? ⟨w3.heap.size, 1, none⟩ = some (.slice afv6u PS.length cfv6u) := xw4.cell (by first | (simp; done) | ((repeat rw [World.cell?_alloc_lt _ _ _ (by simp <;> omega)]); simp; done) | (go_simp; done))
      have b82 : w4.cell? ⟨w3.heap.size, 2, none⟩ = some (.slice afv6v PT.length cfv6v) := xw4.cell (by first | (simp; done) | ((repeat rw [World.cell?_alloc_lt _ _ _ (by simp <;> omega)]); simp; done) | (go_simp; done))
      have z_b2 : w1.heap.size < w4.heap.size := World.block_lt_of_cell? _ _ b20
      have z_b5 : w2.heap.size < w4.heap.size := World.block_lt_of_cell? _ _ b50
      have z_b8 : w3.heap.size < w4.heap.size := World.block_lt_of_cell? _ _ b80
      replace i1 := i1.ext Lw4
      replace i2 := i2.ext Lw4
      replace i3 := i3.ext Lw4
      replace i4u := i4u.ext Lw4
      replace i4v := i4v.ext Lw4
      replace i7u := i7u.ext Lw4
      replace i7v := i7v.ext Lw4
      have s_w4 : w.heap.size ≤ w4.heap.size := Xw4.size
      clear xw4
      go_wp2_with fail
      refine (leqView_c PB (.slice afv3u PS.length cfv3u) (.slice afv3v PT.length cfv3v) (.slice afv6u PS.length cfv6u) (.slice afv6v PT.length cfv6v) PS PT _ _ _ _ _ (i4u.ext (by repeat (first | (with_reducible assumption) | (with_reducible refine Ext.setCell ?_ (by first | (simp; done) | (simp; omega) | omega) _) | (with_reducible apply Ext.alloc) | (with_reducible apply Ext.drew) | (with_reducible apply Ext.drewN) | (with_reducible exact Ext.refl _)))) (i4v.ext (by repeat (first | (with_reducible assumption) | (with_reducible refine Ext.setCell ?_ (by first | (simp; done) | (simp; omega) | omega) _) | (with_reducible apply Ext.alloc) | (with_reducible apply Ext.drew) | (with_reducible apply Ext.drewN) | (with_reducible exact Ext.refl _)))) (i7u.ext (by repeat (first | (with_reducible assumption) | (with_reducible refine Ext.setCell ?_ (by first | (simp; done) | (simp; omega) | omega) _) | (with_reducible apply Ext.alloc) | (with_reducible apply Ext.drew) | (with_reducible apply Ext.drewN) | (with_reducible exact Ext.refl _)))) (i7v.ext (by repeat (first | (with_reducible assumption) | (with_reducible refine Ext.setCell ?_ (by first | (simp; done) | (simp; omega) | omega) _) | (with_reducible apply Ext.alloc) | (with_reducible apply Ext.drew) | (with_reducible apply Ext.drewN) | (with_reducible exact Ext.refl _))))).mono ?_
      rintro e w5 ⟨rfl, xw5⟩
      have Lw5 : Ext w4 w5 := Ext.trans (by repeat (first | (with_reducible assumption) | (with_reducible refine Ext.setCell ?_ (by first | (simp; done) | (simp; omega) | omega) _) | (with_reducible apply Ext.alloc) | (with_reducible apply Ext.drew) | (with_reducible apply Ext.drewN) | (with_reducible exact Ext.refl _))) xw5
      have Xw5 : Ext w w5 := Xw4.trans Lw5
      replace b20 := Lw5.cell b20
      replace b21 := Lw5.cell b21
      replace b22 := Lw5.cell b22
      replace b50 := Lw5.cell b50
      replace b51 := Lw5.cell b51
      replace b52 := Lw5.cell b52
      replace b80 := Lw5.cell b80
      replace b81 := Lw5.cell b81
      replace b82 := Lw5.cell b82
      have z_b2 : w1.heap.size < w5.heap.size := World.block_lt_of_cell? _ _ b20
      have z_b5 : w2.heap.size < w5.heap.size := World.block_lt_of_cell? _ _ b50
      have z_b8 : w3.heap.size < w5.heap.size := World.block_lt_of_cell? _ _ b80
      replace i1 := i1.ext Lw5
      replace i2 := i2.ext Lw5
      replace i3 := i3.ext Lw5
      replace i4u := i4u.ext Lw5
      replace i4v := i4v.ext Lw5
      replace i7u := i7u.ext Lw5
      replace i7v := i7v.ext Lw5
      have s_w5 : w.heap.size ≤ w5.heap.size := Xw5.size
      clear xw5
      go_wp2_with fail
      go_ret
      exact ⟨rfl, (Xw5.trans (by repeat (first | (with_reducible assumption) | (with_reducible refine Ext.setCell ?_ (by first | (simp; done) | (simp; omega) | omega) _) | (with_reducible apply Ext.alloc) | (with_reducible apply Ext.drew) | (with_reducible apply Ext.drewN) | (with_reducible exact Ext.refl _))))⟩
    · obtain ⟨he, hol, hs4, hox, htl, hp2, hsh, hcb, hfin⟩ := perm_law (b := b) (s := s) (t := t) (ord := ix) (by rw [hP])
      rw [he] at hP
      injection hP with g1 hP
      injection hP with g2 hP
      injection hP with g3 hP
      obtain rfl := g1
      rw [g2, g3] at he hp2 hfin
      have hcn := Lib.hid (cnt_law hsh)
      replace he := Lib.hid he
      replace hol := Lib.hid hol
      replace hox := Lib.hid hox
      replace htl := Lib.hid htl
      replace hp2 := Lib.hid hp2
      replace hsh := Lib.hid hsh
      replace hfin := Lib.hid hfin
      clear hP g2 g3
      have hix4 : ix.length ≤ 4 := by have := hol.out; omega
      go_wp2_with fail
      refine (pv_eq he.out (implPermuteDims_c b (.slice p1 s.length r1) (.slice p2 t.length r2) s t (.slice p3 ix.length r3) ix _ _ _ (i1.ext (by repeat (first | (with_reducible assumption) | (with_reducible refine Ext.setCell ?_ (by first | (simp; done) | (simp; omega) | omega) _) | (with_reducible apply Ext.alloc) | (with_reducible apply Ext.drew) | (with_reducible apply Ext.drewN) | (with_reducible exact Ext.refl _)))) (i2.ext (by repeat (first | (with_reducible assumption) | (with_reducible refine Ext.setCell ?_ (by first | (simp; done) | (simp; omega) | omega) _) | (with_reducible apply Ext.alloc) | (with_reducible apply Ext.drew) | (with_reducible apply Ext.drewN) | (with_reducible exact Ext.refl _)))) _ (i3.ext (by repeat (first | (with_reducible assumption) | (with_reducible refine Ext.setCell ?_ (by first | (simp; done) | (simp; omega) | omega) _) | (with_reducible apply Ext.alloc) | (with_reducible apply Ext.drew) | (with_reducible apply Ext.drewN) | (with_reducible exact Ext.refl _)))))).mono ?_
      rintro e w2 ⟨fv10u, fv10v, rfl, i11u, i11v, -, -, -, xw2⟩
      have Lw2 : Ext w1 w2 := Ext.trans (by repeat (first | (with_reducible assumption) | (with_reducible refine Ext.setCell ?_ (by first | (simp; done) | (simp; omega) | omega) _) | (with_reducible apply Ext.alloc) | (with_reducible apply Ext.drew) | (with_reducible apply Ext.drewN) | (with_reducible exact Ext.refl _))) xw2
      have Xw2 : Ext w w2 := Xw1.trans Lw2
      have b90 : w2.cell? ⟨w1.heap.size, 0, none⟩ = some (.int .i64 b) := xw2.cell (by first | (simp; done) | ((repeat rw [World.cell?_alloc_lt _ _ _ (by simp <;> omega)]); simp; done) | (go_simp; done))
      have b91 : w2.cell? ⟨w1.heap.size, 1, none⟩ = some (.slice p1 s.length r1) := xw2.cell (by first | (simp; done) | ((repeat rw [World.cell?_alloc_lt _ _ _ (by simp <;> omega)]); simp; done) | (go_simp; done))
      have b92 : w2.cell? ⟨w1.heap.size, 2, none⟩ = some (.slice p2 t.length r2) := xw2.cell (by first | (simp; done) | ((repeat rw [World.cell?_alloc_lt _ _ _ (by simp <;> omega)]); simp; done) | (go_simp; done))
      have z_b9 : w1.heap.size < w2.heap.size := World.block_lt_of_cell? _ _ b90
      replace i1 := i1.ext Lw2
      replace i2 := i2.ext Lw2
      replace i3 := i3.ext Lw2
      have s_w2 : w.heap.size ≤ w2.heap.size := Xw2.size
      clear xw2
      obtain ⟨afv10u, cfv10u, rfl⟩ := i11u.form
      obtain ⟨afv10v, cfv10v, rfl⟩ := i11v.form
      go_wp2_with fail
      refine (pv_eq he.out (specPermuteDims_c b (.slice p1 s.length r1) (.slice p2 t.length r2) s t (.slice p3 ix.length r3) ix _ _ _ (i1.ext (by repeat (first | (with_reducible assumption) | (with_reducible refine Ext.setCell ?_ (by first | (simp; done) | (simp; omega) | omega) _) | (with_reducible apply Ext.alloc) | (with_reducible apply Ext.drew) | (with_reducible apply Ext.drewN) | (with_reducible exact Ext.refl _)))) (i2.ext (by repeat (first | (with_reducible assumption) | (with_reducible refine Ext.setCell ?_ (by first | (simp; done) | (simp; omega) | omega) _) | (with_reducible apply Ext.alloc) | (with_reducible apply Ext.drew) | (with_reducible apply Ext.drewN) | (with_reducible exact Ext.refl _)))) _ (i3.ext (by repeat (first | (with_reducible assumption) | (with_reducible refine Ext.setCell ?_ (by first | (simp; done) | (simp; omega) | omega) _) | (with_reducible apply Ext.alloc) | (with_reducible apply Ext.drew) | (with_reducible apply Ext.drewN) | (with_reducible exact Ext.refl _)))))).mono ?_
      rintro e w3 ⟨fv13u, fv13v, rfl, i14u, i14v, -, -, -, xw3⟩
      have Lw3 : Ext w2 w3 := Ext.trans (by repeat (first | (with_reducible assumption) | (with_reducible refine Ext.setCell ?_ (by first | (simp; done) | (simp; omega) | omega) _) | (with_reducible apply Ext.alloc) | (with_reducible apply Ext.drew) | (with_reducible apply Ext.drewN) | (with_reducible exact Ext.refl _))) xw3
      have Xw3 : Ext w w3 := Xw2.trans Lw3
      replace b90 := Lw3.cell b90
      replace b91 := Lw3.cell b91
      replace b92 := Lw3.cell b92
      have b120 : w3.cell? ⟨w2.heap.size, 0, none⟩ = some (.int .i64 b) := xw3.cell (by first | (simp; done) | ((repeat rw [World.cell?_alloc_lt _ _ _ (by simp <;> omega)]); simp; done) | (go_simp; done))
      have b121 : w3.cell? ⟨w2.heap.size, 1, none⟩ = some (.slice afv10u PS.length cfv10u) := xw3.cell (by first | (simp; done) | ((repeat rw [World.cell?_alloc_lt _ _ _ (by simp <;> omega)]); simp; done) | (go_simp; done))
      have b122 : w3.cell? ⟨w2.heap.size, 2, none⟩ = some (.slice afv10v PT.length cfv10v) := xw3.cell (by first | (simp; done) | ((repeat rw [World.cell?_alloc_lt _ _ _ (by simp <;> omega)]); simp; done) | (go_simp; done))
      have z_b9 : w1.heap.size < w3.heap.size := World.block_lt_of_cell? _ _ b90
      have z_b12 : w2.heap.size < w3.heap.size := World.block_lt_of_cell? _ _ b120
      replace i1 := i1.ext Lw3
      replace i2 := i2.ext Lw3
      replace i3 := i3.ext Lw3
      replace i11u := i11u.ext Lw3
      replace i11v := i11v.ext Lw3
      have s_w3 : w.heap.size ≤ w3.heap.size := Xw3.size
      clear xw3
      obtain ⟨afv13u, cfv13u, rfl⟩ := i14u.form
      obtain ⟨afv13v, cfv13v, rfl⟩ := i14v.form
      go_wp2_with fail
      refine (leqView_c b (.slice afv10u PS.length cfv10u) (.slice afv10v PT.length cfv10v) (.slice afv13u PS.length cfv13u) (.slice afv13v PT.length cfv13v) PS PT _ _ _ _ _ (i11u.ext (by repeat (first | (with_reducible assumption) | (with_reducible refine Ext.setCell ?_ (by first | (simp; done) | (simp; omega) | omega) _) | (with_reducible apply Ext.alloc) | (with_reducible apply Ext.drew) | (with_reducible apply Ext.drewN) | (with_reducible exact Ext.refl _)))) (i11v.ext (by repeat (first | (with_reducible assumption) | (with_reducible refine Ext.setCell ?_ (by first | (simp; done) | (simp; omega) | omega) _) | (with_reducible apply Ext.alloc) | (with_reducible apply Ext.drew) | (with_reducible apply Ext.drewN) | (with_reducible exact Ext.refl _)))) (i14u.ext (by repeat (first | (with_reducible assumption) | (with_reducible refine Ext.setCell ?_ (by first | (simp; done) | (simp; omega) | omega) _) | (with_reducible apply Ext.alloc) | (with_reducible apply Ext.drew) | (with_reducible apply Ext.drewN) | (with_reducible exact Ext.refl _)))) (i14v.ext (by repeat (first | (with_reducible assumption) | (with_reducible refine Ext.setCell ?_ (by first | (simp; done) | (simp; omega) | omega) _) | (with_reducible apply Ext.alloc) | (with_reducible apply Ext.drew) | (with_reducible apply Ext.drewN) | (with_reducible exact Ext.refl _))))).mono ?_
      rintro e w4 ⟨rfl, xw4⟩
      have Lw4 : Ext w3 w4 := Ext.trans (by repeat (first | (with_reducible assumption) | (with_reducible refine Ext.setCell ?_ (by first | (simp; done) | (simp; omega) | omega) _) | (with_reducible apply Ext.alloc) | (with_reducible apply Ext.drew) | (with_reducible apply Ext.drewN) | (with_reducible exact Ext.refl _))) xw4
      have Xw4 : Ext w w4 := Xw3.trans Lw4
      replace b90 := Lw4.cell b90
      replace b91 := Lw4.cell b91
      replace b92 := Lw4.cell b92
      replace b120 := Lw4.cell b120
      replace b121 := Lw4.cell b121
      replace b122 := Lw4.cell b122
      have b150 : w4.cell? ⟨w3.heap.size, 0, none⟩ = some (.int .i64 b) := xw4.cell (by first | (simp; done) | ((repeat rw [World.cell?_alloc_lt _ _ _ (by simp <;> omega)]); simp; done) | (go_simp; done))
      have b151 : w4.cell? ⟨w3.heap.size, 1, none⟩ = some (.slice afv13u PS.length cfv13u) := xw4.cell (by first | (simp; done) | ((repeat rw [World.cell?_alloc_lt _ _ _ (by simp <;> omega)]); simp; done) | (go_simp; done))
      have b152 : w4.cell? ⟨w3.heap.size, 2, none⟩ = some (.slice afv13v PT.length cfv13v) := xw4.cell (by first | (simp; done) | ((repeat rw [World.cell?_alloc_lt _ _ _ (by simp <;> omega)]); simp; done) | (go_simp; done))
      have z_b9 : w1.heap.size < w4.heap.size := World.block_lt_of_cell? _ _ b90
      have z_b12 : w2.heap.size < w4.heap.size := World.block_lt_of_cell? _ _ b120
      have z_b15 : w3.heap.size < w4.heap.size := World.block_lt_of_cell? _ _ b150
      replace i1 := i1.ext Lw4
      replace i2 := i2.ext Lw4
      replace i3 := i3.ext Lw4
      replace i11u := i11u.ext Lw4
      replace i11v := i11v.ext Lw4
      replace i14u := i14u.ext Lw4
      replace i14v := i14v.ext Lw4
      have s_w4 : w.heap.size ≤ w4.heap.size := Xw4.size
      clear xw4
      have Q16_b90 := Lib.hid b90
      have Q16_b91 := Lib.hid b91
      have Q16_b92 := Lib.hid b92
      have Q16_zb9 := z_b9
      have Q16_b120 := Lib.hid b120
      have Q16_b121 := Lib.hid b121
      have Q16_b122 := Lib.hid b122
      have Q16_zb12 := z_b12
      have Q16_b150 := Lib.hid b150
      have Q16_b151 := Lib.hid b151
      have Q16_b152 := Lib.hid b152
      have Q16_zb15 := z_b15
      have Q16_i1 := Lib.hid i1
      have Q16_i2 := Lib.hid i2
      have Q16_i3 := Lib.hid i3
      have Q16_i11u := Lib.hid i11u
      have Q16_i11v := Lib.hid i11v
      have Q16_i14u := Lib.hid i14u
      have Q16_i14v := Lib.hid i14v
      have BL17 : Ext w4 w4 := Ext.refl _
      obtain ⟨i0mk18, himk18, hz0mk18, hz1mk18, hz2mk18⟩ := info_parts infoInt
      go_wp2_with (at_make; refine wpList_make_full _ rfl _ _ 23 rfl w4.heap.size 3 i0mk18 (.int .i64 0) 1 Try.underlying23 himk18 hz0mk18 hz1mk18 .i64 .i64 _ _ ix.length rfl rfl rfl rfl (by rw [hz2mk18]; omega) (by unfold maxLen; omega) (Nat.le_refl _) ?_)
      intro w5 hown7 hgr7
      have xw5 : Ext w4 w5 := (Ext.refl w4).grown hgr7 (by simp)
      rw [made_ints] at hown7
      clear hgr7
      have O19 : OwnI w5 w4.heap.size (.slice (some ⟨w4.heap.size, 0, none⟩) ix.length ix.length) (List.replicate ix.length 0) := by unfold OwnI; simpa using hown7
      clear hown7 himk18 hz0mk18 hz1mk18 hz2mk18
      have Lw5 : Ext w4 w5 := Ext.trans (by repeat (first | (with_reducible assumption) | (with_reducible refine Ext.setCell ?_ (by first | (simp; done) | (simp; omega) | omega) _) | (with_reducible apply Ext.alloc) | (with_reducible apply Ext.drew) | (with_reducible apply Ext.drewN) | (with_reducible exact Ext.refl _))) xw5
      have Xw5 : Ext w w5 := Xw4.trans Lw5
      replace b90 := Lw5.cell b90
      replace b91 := Lw5.cell b91
      replace b92 := Lw5.cell b92
      replace b120 := Lw5.cell b120
      replace b121 := Lw5.cell b121
      replace b122 := Lw5.cell b122
      replace b150 := Lw5.cell b150
      replace b151 := Lw5.cell b151
      replace b152 := Lw5.cell b152
      have z_b9 : w1.heap.size < w5.heap.size := World.block_lt_of_cell? _ _ b90
      have z_b12 : w2.heap.size < w5.heap.size := World.block_lt_of_cell? _ _ b120
      have z_b15 : w3.heap.size < w5.heap.size := World.block_lt_of_cell? _ _ b150
      replace i1 := i1.ext Lw5
      replace i2 := i2.ext Lw5
      replace i3 := i3.ext Lw5
      replace i11u := i11u.ext Lw5
      replace i11v := i11v.ext Lw5
      replace i14u := i14u.ext Lw5
      replace i14v := i14v.ext Lw5
      have s_w5 : w.heap.size ≤ w5.heap.size := Xw5.size
      have BL17_w5 : Ext w4 w5 := BL17.trans Lw5
      clear xw5
      skip
      go_wp2_with fail
      go_loopw [10] (fun i wr => ∃ (k : Nat), k ≤ ix.length ∧ i = .int .i64 k ∧ OwnI wr (w4.heap.size) (.slice (some ⟨w4.heap.size, 0, none⟩) ix.length ix.length) (putUp (List.replicate ix.length 0) ix (upL ix.length) k) ∧ Chg w4.heap.size (w4.heap.size + 1) w5 wr ∧ Ext w4 wr) (fun i _ => ix.length - (intOf i).toNat)
      case atStart => exact ⟨0, Nat.zero_le _, rfl, (show OwnI _ _ _ (putUp (List.replicate ix.length 0) ix (upL ix.length) 0) from (O19.ext (by repeat (first | (with_reducible assumption) | (with_reducible refine Ext.setCell ?_ (by first | (simp; done) | (simp; omega) | omega) _) | (with_reducible apply Ext.alloc) | (with_reducible apply Ext.drew) | (with_reducible apply Ext.drewN) | (with_reducible exact Ext.refl _))))), Chg.refl _ _ _, BL17_w5⟩
      case round =>
        obtain ⟨k, hk, rfl, O19n, Kr20, Er21⟩ := hrel
        have Xwr : Ext w wr := Xw4.trans Er21
        have s_wr : w.heap.size ≤ wr.heap.size := Xwr.size
        have t_wr : w5.heap.size ≤ wr.heap.size := Kr20.size
        replace b90 := Er21.cell Q16_b90.out
        replace b91 := Er21.cell Q16_b91.out
        replace b92 := Er21.cell Q16_b92.out
        replace b120 := Er21.cell Q16_b120.out
        replace b121 := Er21.cell Q16_b121.out
        replace b122 := Er21.cell Q16_b122.out
        replace b150 := Er21.cell Q16_b150.out
        replace b151 := Er21.cell Q16_b151.out
        replace b152 := Er21.cell Q16_b152.out
        have z_b9 : w1.heap.size < wr.heap.size := World.block_lt_of_cell? _ _ b90
        have z_b12 : w2.heap.size < wr.heap.size := World.block_lt_of_cell? _ _ b120
        have z_b15 : w3.heap.size < wr.heap.size := World.block_lt_of_cell? _ _ b150
        replace i1 := (Q16_i1.out).ext Er21
        replace i2 := (Q16_i2.out).ext Er21
        replace i3 := (Q16_i3.out).ext Er21
        replace i11u := (Q16_i11u.out).ext Er21
        replace i11v := (Q16_i11v.out).ext Er21
        replace i14u := (Q16_i14u.out).ext Er21
        replace i14v := (Q16_i14v.out).ext Er21
        clear O19
        have O19 := O19n
        clear O19n
        by_cases hlt : k < ix.length
        · have hkI : (k : Int) < ix.length := by omega
          obtain ⟨hi0, hi1⟩ := hox.out _ (getD_mem hlt)
          obtain ⟨j, hj⟩ : ∃ j : Nat, ix.getD k 0 = j := ⟨(ix.getD k 0).toNat, by omega⟩
          rw [hj] at hi0 hi1
          have hs := Lib.hid (inv_step hlt hj)
          replace hj := Lib.hid hj
          have hjI : (j : Int) < ix.length := by have := hol.out; omega
          have hjN : j < ix.length := by omega
          have hN_e24 : k < ix.length := (by omega)
          have hI_e24 : (k : Int) < (ix.length : Int) := by omega
          obtain ⟨bl22, ol23, rfl, e240⟩ := i3.at k (by omega)
          obtain ⟨v25, hv25⟩ : ∃ v, ix.getD k 0 = v := ⟨_, rfl⟩
          rw [hv25] at e240
          replace hv25 := Lib.hid hv25
          have y_e24 : bl22 < wr.heap.size := World.block_lt_of_cell? _ _ e240
          have z_e24 := y_e24
          obtain rfl : v25 = (j : Int) := by rw [← hv25.out]; exact hj.out
          have A26 := O19.cell j (by rw [putUp_len]; simp; omega)
          obtain ⟨A26a, A26b⟩ := A26
          go_wp2_with fail
          clear e240 z_e24
          have Kw6 : Chg (w4.heap.size) (w4.heap.size + 1) wr (wr.setCell ⟨w4.heap.size, j, none⟩ (.int .i64 (k : Int))) := (Chg.setCell (p := ⟨w4.heap.size, j, none⟩) (Chg.refl (w4.heap.size) (w4.heap.size + 1) _) (Nat.le_refl _) (Nat.lt_succ_self _) (.int .i64 (k : Int)))
          have Xw6 : Ext w (wr.setCell ⟨w4.heap.size, j, none⟩ (.int .i64 (k : Int))) := (Ext.setCell (p := ⟨w4.heap.size, j, none⟩) Xwr (by first | (simp; done) | (simp; omega) | omega) (.int .i64 (k : Int)))
          have BL17_w6 : Ext w4 (wr.setCell ⟨w4.heap.size, j, none⟩ (.int .i64 (k : Int))) := (Ext.setCell (p := ⟨w4.heap.size, j, none⟩) Er21 (by first | (simp; done) | (simp; omega) | omega) (.int .i64 (k : Int)))
          have Kr20_w6 : Chg w4.heap.size (w4.heap.size + 1) w5 (wr.setCell ⟨w4.heap.size, j, none⟩ (.int .i64 (k : Int))) := Chg.trans Kr20 Kw6
          replace b90 := BL17_w6.cell Q16_b90.out
          replace b91 := BL17_w6.cell Q16_b91.out
          replace b92 := BL17_w6.cell Q16_b92.out
          replace b120 := BL17_w6.cell Q16_b120.out
          replace b121 := BL17_w6.cell Q16_b121.out
          replace b122 := BL17_w6.cell Q16_b122.out
          replace b150 := BL17_w6.cell Q16_b150.out
          replace b151 := BL17_w6.cell Q16_b151.out
          replace b152 := BL17_w6.cell Q16_b152.out
          replace i1 := (Q16_i1.out).ext BL17_w6
          replace i2 := (Q16_i2.out).ext BL17_w6
          replace i3 := (Q16_i3.out).ext BL17_w6
          replace i11u := (Q16_i11u.out).ext BL17_w6
          replace i11v := (Q16_i11v.out).ext BL17_w6
          replace i14u := (Q16_i14u.out).ext BL17_w6
          replace i14v := (Q16_i14v.out).ext BL17_w6
          have n_O19 := O19.set j ((k : Int)) (by first | omega | (simp; omega) | (rw [putUp_len]; simp; omega) | (rw [addUp_len]; omega))
          replace O19 := n_O19
          clear n_O19
          clear Kw6
          have z_b9 : w1.heap.size < (wr.setCell ⟨w4.heap.size, j, none⟩ (.int .i64 (k : Int))).heap.size := World.block_lt_of_cell? _ _ b90
          have z_b12 : w2.heap.size < (wr.setCell ⟨w4.heap.size, j, none⟩ (.int .i64 (k : Int))).heap.size := World.block_lt_of_cell? _ _ b120
          have z_b15 : w3.heap.size < (wr.setCell ⟨w4.heap.size, j, none⟩ (.int .i64 (k : Int))).heap.size := World.block_lt_of_cell? _ _ b150
          have s_w6 : w.heap.size ≤ (wr.setCell ⟨w4.heap.size, j, none⟩ (.int .i64 (k : Int))).heap.size := Xw6.size
          generalize (wr.setCell ⟨w4.heap.size, j, none⟩ (.int .i64 (k : Int))) = w6 at *
          clear A26a A26b
          go_roundw
          case rel => exact ⟨k + 1, by omega, by go_num, (by rw [hs.out]; exact O19.ext (by repeat (first | (with_reducible assumption) | (with_reducible refine Ext.setCell ?_ (by first | (simp; done) | (simp; omega) | omega) _) | (with_reducible apply Ext.alloc) | (with_reducible apply Ext.drew) | (with_reducible apply Ext.drewN) | (with_reducible exact Ext.refl _)))), Kr20_w6.ext (by repeat (first | (with_reducible assumption) | (with_reducible refine Ext.setCell ?_ (by first | (simp; done) | (simp; omega) | omega) _) | (with_reducible apply Ext.alloc) | (with_reducible apply Ext.drew) | (with_reducible apply Ext.drewN) | (with_reducible exact Ext.refl _))), BL17_w6.trans (by repeat (first | (with_reducible assumption) | (with_reducible refine Ext.setCell ?_ (by first | (simp; done) | (simp; omega) | omega) _) | (with_reducible apply Ext.alloc) | (with_reducible apply Ext.drew) | (with_reducible apply Ext.drewN) | (with_reducible exact Ext.refl _)))⟩
          case measure => simp [intOf]; omega
        · have hkI : ¬ (k : Int) < ix.length := by omega
          obtain rfl : k = ix.length := by omega
          replace O19 : OwnI wr _ _ (invO ix) := O19
          go_wp2_with fail
          refine (pv_eq hp2.out (implPermuteDims_c b (.slice afv10u PS.length cfv10u) (.slice afv10v PT.length cfv10v) PS PT (.slice (some ⟨w4.heap.size, 0, none⟩) ix.length ix.length) (invO ix) _ _ _ (i11u.ext (by repeat (first | (with_reducible assumption) | (with_reducible refine Ext.setCell ?_ (by first | (simp; done) | (simp; omega) | omega) _) | (with_reducible apply Ext.alloc) | (with_reducible apply Ext.drew) | (with_reducible apply Ext.drewN) | (with_reducible exact Ext.refl _)))) (i11v.ext (by repeat (first | (with_reducible assumption) | (with_reducible refine Ext.setCell ?_ (by first | (simp; done) | (simp; omega) | omega) _) | (with_reducible apply Ext.alloc) | (with_reducible apply Ext.drew) | (with_reducible apply Ext.drewN) | (with_reducible exact Ext.refl _)))) _ ((O19.ints (by rw [inv_len]; omega)).ext (by repeat (first | (with_reducible assumption) | (with_reducible refine Ext.setCell ?_ (by first | (simp; done) | (simp; omega) | omega) _) | (with_reducible apply Ext.alloc) | (with_reducible apply Ext.drew) | (with_reducible apply Ext.drewN) | (with_reducible exact Ext.refl _)))))).mono ?_
          rintro e w6 ⟨fv27u, fv27v, rfl, i28u, i28v, -, -, -, xw6⟩
          have Lw6 : Ext wr w6 := Ext.trans (by repeat (first | (with_reducible assumption) | (with_reducible refine Ext.setCell ?_ (by first | (simp; done) | (simp; omega) | omega) _) | (with_reducible apply Ext.alloc) | (with_reducible apply Ext.drew) | (with_reducible apply Ext.drewN) | (with_reducible exact Ext.refl _))) xw6
          have Xw6 : Ext w w6 := Xwr.trans Lw6
          replace b90 := Lw6.cell b90
          replace b91 := Lw6.cell b91
          replace b92 := Lw6.cell b92
          replace b120 := Lw6.cell b120
          replace b121 := Lw6.cell b121
          replace b122 := Lw6.cell b122
          replace b150 := Lw6.cell b150
          replace b151 := Lw6.cell b151
          replace b152 := Lw6.cell b152
          have z_b9 : w1.heap.size < w6.heap.size := World.block_lt_of_cell? _ _ b90
          have z_b12 : w2.heap.size < w6.heap.size := World.block_lt_of_cell? _ _ b120
          have z_b15 : w3.heap.size < w6.heap.size := World.block_lt_of_cell? _ _ b150
          replace i1 := i1.ext Lw6
          replace i2 := i2.ext Lw6
          replace i3 := i3.ext Lw6
          replace i11u := i11u.ext Lw6
          replace i11v := i11v.ext Lw6
          replace i14u := i14u.ext Lw6
          replace i14v := i14v.ext Lw6
          replace O19 := O19.ext Lw6
          have s_w6 : w.heap.size ≤ w6.heap.size := Xw6.size
          have BL17_w6 : Ext w4 w6 := Er21.trans Lw6
          have Kr20_w6 : Chg w4.heap.size (w4.heap.size + 1) w5 w6 := Chg.ext Kr20 Lw6
          clear xw6
          obtain ⟨afv27u, cfv27u, rfl⟩ := i28u.form
          obtain ⟨afv27v, cfv27v, rfl⟩ := i28v.form
          go_wp2_with fail
          have Lw7 : Ext w6 (w6.alloc (.cells #[.int .i64 b, .slice afv27u s.length cfv27u, .slice afv27v t.length cfv27v] 25)) := (by repeat (first | (with_reducible assumption) | (with_reducible refine Ext.setCell ?_ (by first | (simp; done) | (simp; omega) | omega) _) | (with_reducible apply Ext.alloc) | (with_reducible apply Ext.drew) | (with_reducible apply Ext.drewN) | (with_reducible exact Ext.refl _)))
          have Xw7 : Ext w (w6.alloc (.cells #[.int .i64 b, .slice afv27u s.length cfv27u, .slice afv27v t.length cfv27v] 25)) := Xw6.trans Lw7
          replace b90 := Lw7.cell b90
          replace b91 := Lw7.cell b91
          replace b92 := Lw7.cell b92
          replace b120 := Lw7.cell b120
          replace b121 := Lw7.cell b121
          replace b122 := Lw7.cell b122
          replace b150 := Lw7.cell b150
          replace b151 := Lw7.cell b151
          replace b152 := Lw7.cell b152
          have b290 : (w6.alloc (.cells #[.int .i64 b, .slice afv27u s.length cfv27u, .slice afv27v t.length cfv27v] 25)).cell? ⟨w6.heap.size, 0, none⟩ = some (.int .i64 b) := (by first | (simp; done) | ((repeat rw [World.cell?_alloc_lt _ _ _ (by simp <;> omega)]); simp; done) | (go_simp; done))
          have b291 : (w6.alloc (.cells #[.int .i64 b, .slice afv27u s.length cfv27u, .slice afv27v t.length cfv27v] 25)).cell? ⟨w6.heap.size, 1, none⟩ = some (.slice afv27u s.length cfv27u) := (by first | (simp; done) | ((repeat rw [World.cell?_alloc_lt _ _ _ (by simp <;> omega)]); simp; done) | (go_simp; done))
          have b292 : (w6.alloc (.cells #[.int .i64 b, .slice afv27u s.length cfv27u, .slice afv27v t.length cfv27v] 25)).cell? ⟨w6.heap.size, 2, none⟩ = some (.slice afv27v t.length cfv27v) := (by first | (simp; done) | ((repeat rw [World.cell?_alloc_lt _ _ _ (by simp <;> omega)]); simp; done) | (go_simp; done))
          have z_b9 : w1.heap.size < (w6.alloc (.cells #[.int .i64 b, .slice afv27u s.length cfv27u, .slice afv27v t.length cfv27v] 25)).heap.size := World.block_lt_of_cell? _ _ b90
          have z_b12 : w2.heap.size < (w6.alloc (.cells #[.int .i64 b, .slice afv27u s.length cfv27u, .slice afv27v t.length cfv27v] 25)).heap.size := World.block_lt_of_cell? _ _ b120
          have z_b15 : w3.heap.size < (w6.alloc (.cells #[.int .i64 b, .slice afv27u s.length cfv27u, .slice afv27v t.length cfv27v] 25)).heap.size := World.block_lt_of_cell? _ _ b150
          have z_b29 : w6.heap.size < (w6.alloc (.cells #[.int .i64 b, .slice afv27u s.length cfv27u, .slice afv27v t.length cfv27v] 25)).heap.size := World.block_lt_of_cell? _ _ b290
          replace i1 := i1.ext Lw7
          replace i2 := i2.ext Lw7
          replace i3 := i3.ext Lw7
          replace i11u := i11u.ext Lw7
          replace i11v := i11v.ext Lw7
          replace i14u := i14u.ext Lw7
          replace i14v := i14v.ext Lw7
          replace O19 := O19.ext Lw7
          replace i28u := i28u.ext Lw7
          replace i28v := i28v.ext Lw7
          have s_w7 : w.heap.size ≤ (w6.alloc (.cells #[.int .i64 b, .slice afv27u s.length cfv27u, .slice afv27v t.length cfv27v] 25)).heap.size := Xw7.size
          have BL17_w7 : Ext w4 (w6.alloc (.cells #[.int .i64 b, .slice afv27u s.length cfv27u, .slice afv27v t.length cfv27v] 25)) := BL17_w6.trans Lw7
          have Kr20_w7 : Chg w4.heap.size (w4.heap.size + 1) w5 (w6.alloc (.cells #[.int .i64 b, .slice afv27u s.length cfv27u, .slice afv27v t.length cfv27v] 25)) := Chg.ext Kr20_w6 Lw7
          generalize w6.alloc (.cells #[.int .i64 b, .slice afv27u s.length cfv27u, .slice afv27v t.length cfv27v] 25) = w7 at *
          go_loopw [13, 14, 15, 16, 17, 18] (fun i y1 y2 y3 y4 y5 wb => ∃ (q : Nat), (q : Int) ≤ countL s ∧ i = .int .i64 q ∧ Ext w7 wb) (fun i _ _ _ _ _ _ => (countL s).toNat - (intOf i).toNat)
          case atStart => exact ⟨0, by omega, rfl, (by repeat (first | (with_reducible assumption) | (with_reducible refine Ext.setCell ?_ (by first | (simp; done) | (simp; omega) | omega) _) | (with_reducible apply Ext.alloc) | (with_reducible apply Ext.drew) | (with_reducible apply Ext.drewN) | (with_reducible exact Ext.refl _)))⟩
          case round =>
            generalize wr = wb at hrel ⊢
            obtain ⟨q, hq, rfl, Lwb⟩ := hrel
            have Xwb : Ext w wb := Xw7.trans Lwb
            have s_wb : w.heap.size ≤ wb.heap.size := Xwb.size
            have t_wb : w7.heap.size ≤ wb.heap.size := Lwb.size
            replace b90 := Lwb.cell b90
            replace b91 := Lwb.cell b91
            replace b92 := Lwb.cell b92
            replace b120 := Lwb.cell b120
            replace b121 := Lwb.cell b121
            replace b122 := Lwb.cell b122
            replace b150 := Lwb.cell b150
            replace b151 := Lwb.cell b151
            replace b152 := Lwb.cell b152
            replace b290 := Lwb.cell b290
            replace b291 := Lwb.cell b291
            replace b292 := Lwb.cell b292
            have z_b9 : w1.heap.size < wb.heap.size := World.block_lt_of_cell? _ _ b90
            have z_b12 : w2.heap.size < wb.heap.size := World.block_lt_of_cell? _ _ b120
            have z_b15 : w3.heap.size < wb.heap.size := World.block_lt_of_cell? _ _ b150
            have z_b29 : w6.heap.size < wb.heap.size := World.block_lt_of_cell? _ _ b290
            replace i1 := i1.ext Lwb
            replace i2 := i2.ext Lwb
            replace i3 := i3.ext Lwb
            replace i11u := i11u.ext Lwb
            replace i11v := i11v.ext Lwb
            replace i14u := i14u.ext Lwb
            replace i14v := i14v.ext Lwb
            replace O19 := O19.ext Lwb
            replace i28u := i28u.ext Lwb
            replace i28v := i28v.ext Lwb
            have BL17_wb : Ext w4 wb := BL17_w7.trans Lwb
            have Bwb : Ext w7 wb := Lwb
            by_cases hlt2 : (q : Int) < countL s
            · have hqI : (q : Int) < cntA s := by rw [hcn.out]; exact hlt2
              obtain ⟨hq1, hq2, hq3, hq4⟩ := hfin.out q hlt2
              obtain ⟨J, hJ⟩ : ∃ J, idxA s (q : Int) = J := ⟨_, rfl⟩
              rw [hJ] at hq1 hq2 hq3 hq4
              obtain ⟨J2, hJ2⟩ : ∃ J2, takL J ix = J2 := ⟨_, rfl⟩
              rw [hJ2] at hq2 hq4
              replace hJ := Lib.hid hJ
              replace hJ2 := Lib.hid hJ2
              replace hq1 := Lib.hid hq1
              replace hq2 := Lib.hid hq2
              replace hq3 := Lib.hid hq3
              replace hq4 := Lib.hid hq4
              go_wp2_with fail
              refine (implCountOf_c s (.slice p1 s.length r1) _ _ (i1.ext (by repeat (first | (with_reducible assumption) | (with_reducible refine Ext.setCell ?_ (by first | (simp; done) | (simp; omega) | omega) _) | (with_reducible apply Ext.alloc) | (with_reducible apply Ext.drew) | (with_reducible apply Ext.drewN) | (with_reducible exact Ext.refl _))))).mono ?_
              rintro e w' ⟨rfl, rfl⟩
              go_wp2_with fail
              refine (pi_eq hJ.out (implIndexAt_c s (.slice p1 s.length r1) (q : Int) _ _ (i1.ext (by repeat (first | (with_reducible assumption) | (with_reducible refine Ext.setCell ?_ (by first | (simp; done) | (simp; omega) | omega) _) | (with_reducible apply Ext.alloc) | (with_reducible apply Ext.drew) | (with_reducible apply Ext.drewN) | (with_reducible exact Ext.refl _)))))).mono ?_
              rintro e w8 ⟨fv30, rfl, i31, -, xw8⟩
              have Lw8 : Ext wb w8 := Ext.trans (by repeat (first | (with_reducible assumption) | (with_reducible refine Ext.setCell ?_ (by first | (simp; done) | (simp; omega) | omega) _) | (with_reducible apply Ext.alloc) | (with_reducible apply Ext.drew) | (with_reducible apply Ext.drewN) | (with_reducible exact Ext.refl _))) xw8
              have Xw8 : Ext w w8 := Xwb.trans Lw8
              replace b90 := Lw8.cell b90
              replace b91 := Lw8.cell b91
              replace b92 := Lw8.cell b92
              replace b120 := Lw8.cell b120
              replace b121 := Lw8.cell b121
              replace b122 := Lw8.cell b122
              replace b150 := Lw8.cell b150
              replace b151 := Lw8.cell b151
              replace b152 := Lw8.cell b152
              replace b290 := Lw8.cell b290
              replace b291 := Lw8.cell b291
              replace b292 := Lw8.cell b292
              have z_b9 : w1.heap.size < w8.heap.size := World.block_lt_of_cell? _ _ b90
              have z_b12 : w2.heap.size < w8.heap.size := World.block_lt_of_cell? _ _ b120
              have z_b15 : w3.heap.size < w8.heap.size := World.block_lt_of_cell? _ _ b150
              have z_b29 : w6.heap.size < w8.heap.size := World.block_lt_of_cell? _ _ b290
              replace i1 := i1.ext Lw8
              replace i2 := i2.ext Lw8
              replace i3 := i3.ext Lw8
              replace i11u := i11u.ext Lw8
              replace i11v := i11v.ext Lw8
              replace i14u := i14u.ext Lw8
              replace i14v := i14v.ext Lw8
              replace O19 := O19.ext Lw8
              replace i28u := i28u.ext Lw8
              replace i28v := i28v.ext Lw8
              have s_w8 : w.heap.size ≤ w8.heap.size := Xw8.size
              have BL17_w8 : Ext w4 w8 := BL17_wb.trans Lw8
              have Bwb_w8 : Ext w7 w8 := Bwb.trans Lw8
              clear xw8
              obtain ⟨afv30, cfv30, rfl⟩ := i31.form
              go_wp2_with fail
              refine (implOffsetAt_c b (.slice p1 s.length r1) (.slice p2 t.length r2) s t (.slice afv30 J.length cfv30) J _ _ _ (i1.ext (by repeat (first | (with_reducible assumption) | (with_reducible refine Ext.setCell ?_ (by first | (simp; done) | (simp; omega) | omega) _) | (with_reducible apply Ext.alloc) | (with_reducible apply Ext.drew) | (with_reducible apply Ext.drewN) | (with_reducible exact Ext.refl _)))) (i2.ext (by repeat (first | (with_reducible assumption) | (with_reducible refine Ext.setCell ?_ (by first | (simp; done) | (simp; omega) | omega) _) | (with_reducible apply Ext.alloc) | (with_reducible apply Ext.drew) | (with_reducible apply Ext.drewN) | (with_reducible exact Ext.refl _)))) _ (i31.ext (by repeat (first | (with_reducible assumption) | (with_reducible refine Ext.setCell ?_ (by first | (simp; done) | (simp; omega) | omega) _) | (with_reducible apply Ext.alloc) | (with_reducible apply Ext.drew) | (with_reducible apply Ext.drewN) | (with_reducible exact Ext.refl _))))).mono ?_
              rintro e w9 ⟨rfl, xw9⟩
              have Lw9 : Ext w8 w9 := Ext.trans (by repeat (first | (with_reducible assumption) | (with_reducible refine Ext.setCell ?_ (by first | (simp; done) | (simp; omega) | omega) _) | (with_reducible apply Ext.alloc) | (with_reducible apply Ext.drew) | (with_reducible apply Ext.drewN) | (with_reducible exact Ext.refl _))) xw9
              have Xw9 : Ext w w9 := Xw8.trans Lw9
              replace b90 := Lw9.cell b90
              replace b91 := Lw9.cell b91
              replace b92 := Lw9.cell b92
              replace b120 := Lw9.cell b120
              replace b121 := Lw9.cell b121
              replace b122 := Lw9.cell b122
              replace b150 := Lw9.cell b150
              replace b151 := Lw9.cell b151
              replace b152 := Lw9.cell b152
              replace b290 := Lw9.cell b290
              replace b291 := Lw9.cell b291
              replace b292 := Lw9.cell b292
              have z_b9 : w1.heap.size < w9.heap.size := World.block_lt_of_cell? _ _ b90
              have z_b12 : w2.heap.size < w9.heap.size := World.block_lt_of_cell? _ _ b120
              have z_b15 : w3.heap.size < w9.heap.size := World.block_lt_of_cell? _ _ b150
              have z_b29 : w6.heap.size < w9.heap.size := World.block_lt_of_cell? _ _ b290
              replace i1 := i1.ext Lw9
              replace i2 := i2.ext Lw9
              replace i3 := i3.ext Lw9
              replace i11u := i11u.ext Lw9
              replace i11v := i11v.ext Lw9
              replace i14u := i14u.ext Lw9
              replace i14v := i14v.ext Lw9
              replace O19 := O19.ext Lw9
              replace i28u := i28u.ext Lw9
              replace i28v := i28v.ext Lw9
              replace i31 := i31.ext Lw9
              have s_w9 : w.heap.size ≤ w9.heap.size := Xw9.size
              have BL17_w9 : Ext w4 w9 := BL17_w8.trans Lw9
              have Bwb_w9 : Ext w7 w9 := Bwb_w8.trans Lw9
              clear xw9
              rw [hq3.out]
              go_wp2_with fail
              refine wp_region_tail (S := fun w' => w'.cell? ⟨w1.heap.size, 0, none⟩ = some (.int .i64 b) ∧ w'.cell? ⟨w1.heap.size, 1, none⟩ = some (.slice p1 s.length r1) ∧ w'.cell? ⟨w1.heap.size, 2, none⟩ = some (.slice p2 t.length r2) ∧ w'.cell? ⟨w2.heap.size, 0, none⟩ = some (.int .i64 b) ∧ w'.cell? ⟨w2.heap.size, 1, none⟩ = some (.slice afv10u PS.length cfv10u) ∧ w'.cell? ⟨w2.heap.size, 2, none⟩ = some (.slice afv10v PT.length cfv10v) ∧ w'.cell? ⟨w3.heap.size, 0, none⟩ = some (.int .i64 b) ∧ w'.cell? ⟨w3.heap.size, 1, none⟩ = some (.slice afv13u PS.length cfv13u) ∧ w'.cell? ⟨w3.heap.size, 2, none⟩ = some (.slice afv13v PT.length cfv13v) ∧ w'.cell? ⟨w6.heap.size, 0, none⟩ = some (.int .i64 b) ∧ w'.cell? ⟨w6.heap.size, 1, none⟩ = some (.slice afv27u s.length cfv27u) ∧ w'.cell? ⟨w6.heap.size, 2, none⟩ = some (.slice afv27v t.length cfv27v)) (fun i => decide (10 ≤ i)) (by kernel_rfl) ⟨b90, b91, b92, b120, b121, b122, b150, b151, b152, b290, b291, b292⟩ (fun hHeld => ?_)
              refine wpTail_take (i := 0) (v := ?_) rfl (by kernel_rfl) (by kernel_rfl) (by kernel_rfl) rfl (by kernel_rfl) (fun _ _ _ h => h) (Or.inl ⟨by rfl, ?_⟩) (by assumption) ?_
              rotate_left
              · (intro w hSw; (try dsimp only at hSw); go_simp; try with_reducible rfl)
              try simp only [Act.put, List.setIfInBounds_toArray, List.set_cons_zero, List.set_cons_succ, List.getElem_toArray, List.getElem_cons_succ, List.getElem_cons_zero]
              refine wpTail_take (i := 1) (v := ?_) rfl (by kernel_rfl) (by kernel_rfl) (by kernel_rfl) rfl (by kernel_rfl) (fun _ _ _ h => h) (Or.inl ⟨by rfl, ?_⟩) (by assumption) ?_
              rotate_left
              · (intro w hSw; (try dsimp only at hSw); go_simp; try with_reducible rfl)
              try simp only [Act.put, List.setIfInBounds_toArray, List.set_cons_zero, List.set_cons_succ, List.getElem_toArray, List.getElem_cons_succ, List.getElem_cons_zero]
              refine wpTail_take (i := 2) (v := ?_) rfl (by kernel_rfl) (by kernel_rfl) (by kernel_rfl) rfl (by kernel_rfl) (fun _ _ _ h => h) (Or.inl ⟨by rfl, ?_⟩) (by assumption) ?_
              rotate_left
              · (intro w hSw; (try dsimp only at hSw); go_simp; try with_reducible rfl)
              try simp only [Act.put, List.setIfInBounds_toArray, List.set_cons_zero, List.set_cons_succ, List.getElem_toArray, List.getElem_cons_succ, List.getElem_cons_zero]
              refine wpTail_one (i := 3) (by kernel_rfl) rfl rfl (fun K hK => ?_)
              try simp only [Act.put, List.setIfInBounds_toArray, List.set_cons_zero, List.set_cons_succ, List.getElem_toArray, List.getElem_cons_succ, List.getElem_cons_zero]
              go_simp
              refine (pi_eq hJ2.out (takes_c J ix (.slice afv30 J.length cfv30) (.slice p3 ix.length r3) _ _ _ (i31.ext (by repeat (first | (with_reducible assumption) | (with_reducible refine Ext.setCell ?_ (by first | (simp; done) | (simp; omega) | omega) _) | (with_reducible apply Ext.alloc) | (with_reducible apply Ext.drew) | (with_reducible apply Ext.drewN) | (with_reducible exact Ext.refl _)))) (i3.ext (by repeat (first | (with_reducible assumption) | (with_reducible refine Ext.setCell ?_ (by first | (simp; done) | (simp; omega) | omega) _) | (with_reducible apply Ext.alloc) | (with_reducible apply Ext.drew) | (with_reducible apply Ext.drewN) | (with_reducible exact Ext.refl _)))) (by intro i hi; have := hox.out i hi; have := hq1.out; omega))).mono ?_
              rintro e w10 ⟨fv32, rfl, i33, -, xw10⟩
              have Lw10 : Ext w9 w10 := Ext.trans (by repeat (first | (with_reducible assumption) | (with_reducible refine Ext.setCell ?_ (by first | (simp; done) | (simp; omega) | omega) _) | (with_reducible apply Ext.alloc) | (with_reducible apply Ext.drew) | (with_reducible apply Ext.drewN) | (with_reducible exact Ext.refl _))) xw10
              have Xw10 : Ext w w10 := Xw9.trans Lw10
              replace b90 := Lw10.cell b90
              replace b91 := Lw10.cell b91
              replace b92 := Lw10.cell b92
              replace b120 := Lw10.cell b120
              replace b121 := Lw10.cell b121
              replace b122 := Lw10.cell b122
              replace b150 := Lw10.cell b150
              replace b151 := Lw10.cell b151
              replace b152 := Lw10.cell b152
              replace b290 := Lw10.cell b290
              replace b291 := Lw10.cell b291
              replace b292 := Lw10.cell b292
              have z_b9 : w1.heap.size < w10.heap.size := World.block_lt_of_cell? _ _ b90
              have z_b12 : w2.heap.size < w10.heap.size := World.block_lt_of_cell? _ _ b120
              have z_b15 : w3.heap.size < w10.heap.size := World.block_lt_of_cell? _ _ b150
              have z_b29 : w6.heap.size < w10.heap.size := World.block_lt_of_cell? _ _ b290
              replace i1 := i1.ext Lw10
              replace i2 := i2.ext Lw10
              replace i3 := i3.ext Lw10
              replace i11u := i11u.ext Lw10
              replace i11v := i11v.ext Lw10
              replace i14u := i14u.ext Lw10
              replace i14v := i14v.ext Lw10
              replace O19 := O19.ext Lw10
              replace i28u := i28u.ext Lw10
              replace i28v := i28v.ext Lw10
              replace i31 := i31.ext Lw10
              have s_w10 : w.heap.size ≤ w10.heap.size := Xw10.size
              have BL17_w10 : Ext w4 w10 := BL17_w9.trans Lw10
              have Bwb_w10 : Ext w7 w10 := Bwb_w9.trans Lw10
              clear xw10
              obtain ⟨afv32, cfv32, rfl⟩ := i33.form
              refine hK.out _ _ ⟨b90, b91, b92, b120, b121, b122, b150, b151, b152, b290, b291, b292⟩ (fun hHeld => ?_)
              clear hK K
              try simp only [Act.put, List.setIfInBounds_toArray, List.set_cons_zero, List.set_cons_succ, List.getElem_toArray, List.getElem_cons_succ, List.getElem_cons_zero]
              refine wpTail_one (i := 4) (by kernel_rfl) rfl rfl (fun K hK => ?_)
              try simp only [Act.put, List.setIfInBounds_toArray, List.set_cons_zero, List.set_cons_succ, List.getElem_toArray, List.getElem_cons_succ, List.getElem_cons_zero]
              go_simp
              refine (implOffsetAt_c b (.slice afv10u PS.length cfv10u) (.slice afv10v PT.length cfv10v) PS PT (.slice afv32 J2.length cfv32) J2 _ _ _ (i11u.ext (by repeat (first | (with_reducible assumption) | (with_reducible refine Ext.setCell ?_ (by first | (simp; done) | (simp; omega) | omega) _) | (with_reducible apply Ext.alloc) | (with_reducible apply Ext.drew) | (with_reducible apply Ext.drewN) | (with_reducible exact Ext.refl _)))) (i11v.ext (by repeat (first | (with_reducible assumption) | (with_reducible refine Ext.setCell ?_ (by first | (simp; done) | (simp; omega) | omega) _) | (with_reducible apply Ext.alloc) | (with_reducible apply Ext.drew) | (with_reducible apply Ext.drewN) | (with_reducible exact Ext.refl _)))) _ (i33.ext (by repeat (first | (with_reducible assumption) | (with_reducible refine Ext.setCell ?_ (by first | (simp; done) | (simp; omega) | omega) _) | (with_reducible apply Ext.alloc) | (with_reducible apply Ext.drew) | (with_reducible apply Ext.drewN) | (with_reducible exact Ext.refl _))))).mono ?_
              rintro e w11 ⟨rfl, xw11⟩
              have Lw11 : Ext w10 w11 := Ext.trans (by repeat (first | (with_reducible assumption) | (with_reducible refine Ext.setCell ?_ (by first | (simp; done) | (simp; omega) | omega) _) | (with_reducible apply Ext.alloc) | (with_reducible apply Ext.drew) | (with_reducible apply Ext.drewN) | (with_reducible exact Ext.refl _))) xw11
              have Xw11 : Ext w w11 := Xw10.trans Lw11
              replace b90 := Lw11.cell b90
              replace b91 := Lw11.cell b91
              replace b92 := Lw11.cell b92
              replace b120 := Lw11.cell b120
              replace b121 := Lw11.cell b121
              replace b122 := Lw11.cell b122
              replace b150 := Lw11.cell b150
              replace b151 := Lw11.cell b151
              replace b152 := Lw11.cell b152
              replace b290 := Lw11.cell b290
              replace b291 := Lw11.cell b291
              replace b292 := Lw11.cell b292
              have z_b9 : w1.heap.size < w11.heap.size := World.block_lt_of_cell? _ _ b90
              have z_b12 : w2.heap.size < w11.heap.size := World.block_lt_of_cell? _ _ b120
              have z_b15 : w3.heap.size < w11.heap.size := World.block_lt_of_cell? _ _ b150
              have z_b29 : w6.heap.size < w11.heap.size := World.block_lt_of_cell? _ _ b290
              replace i1 := i1.ext Lw11
              replace i2 := i2.ext Lw11
              replace i3 := i3.ext Lw11
              replace i11u := i11u.ext Lw11
              replace i11v := i11v.ext Lw11
              replace i14u := i14u.ext Lw11
              replace i14v := i14v.ext Lw11
              replace O19 := O19.ext Lw11
              replace i28u := i28u.ext Lw11
              replace i28v := i28v.ext Lw11
              replace i31 := i31.ext Lw11
              replace i33 := i33.ext Lw11
              have s_w11 : w.heap.size ≤ w11.heap.size := Xw11.size
              have BL17_w11 : Ext w4 w11 := BL17_w10.trans Lw11
              have Bwb_w11 : Ext w7 w11 := Bwb_w10.trans Lw11
              clear xw11
              rw [hq2.out]
              refine hK.out _ _ ⟨b90, b91, b92, b120, b121, b122, b150, b151, b152, b290, b291, b292⟩ (fun hHeld => ?_)
              clear hK K
              try simp only [Act.put, List.setIfInBounds_toArray, List.set_cons_zero, List.set_cons_succ, List.getElem_toArray, List.getElem_cons_succ, List.getElem_cons_zero]
              refine wpTail_take (i := 5) (v := ?_) rfl (by kernel_rfl) (by kernel_rfl) (by kernel_rfl) rfl (by kernel_rfl) (fun _ _ _ h => h) (Or.inl ⟨by rfl, ?_⟩) (by assumption) ?_
              rotate_left
              · (intro w hSw; (try dsimp only at hSw); go_simp; try with_reducible rfl)
              try simp only [Act.put, List.setIfInBounds_toArray, List.set_cons_zero, List.set_cons_succ, List.getElem_toArray, List.getElem_cons_succ, List.getElem_cons_zero]
              refine wpTail_take (i := 6) (v := ?_) rfl (by kernel_rfl) (by kernel_rfl) (by kernel_rfl) rfl (by kernel_rfl) (fun _ _ _ h => h) (Or.inl ⟨by rfl, ?_⟩) (by assumption) ?_
              rotate_left
              · (intro w hSw; (try dsimp only at hSw); go_simp; try with_reducible rfl)
              try simp only [Act.put, List.setIfInBounds_toArray, List.set_cons_zero, List.set_cons_succ, List.getElem_toArray, List.getElem_cons_succ, List.getElem_cons_zero]
              refine wpTail_take (i := 7) (v := ?_) rfl (by kernel_rfl) (by kernel_rfl) (by kernel_rfl) rfl (by kernel_rfl) (fun _ _ _ h => h) (Or.inl ⟨by rfl, ?_⟩) (by assumption) ?_
              rotate_left
              · (intro w hSw; (try dsimp only at hSw); go_simp; try with_reducible rfl)
              try simp only [Act.put, List.setIfInBounds_toArray, List.set_cons_zero, List.set_cons_succ, List.getElem_toArray, List.getElem_cons_succ, List.getElem_cons_zero]
              refine wpTail_take (i := 8) (v := ?_) rfl (by kernel_rfl) (by kernel_rfl) (by kernel_rfl) rfl (by kernel_rfl) (fun _ _ _ h => h) (Or.inl ⟨by rfl, ?_⟩) (by assumption) ?_
              rotate_left
              · (intro w hSw; (try dsimp only at hSw); go_simp; try with_reducible rfl)
              try simp only [Act.put, List.setIfInBounds_toArray, List.set_cons_zero, List.set_cons_succ, List.getElem_toArray, List.getElem_cons_succ, List.getElem_cons_zero]
              refine wpTail_take (i := 9) (v := ?_) rfl (by kernel_rfl) (by kernel_rfl) (by kernel_rfl) rfl (by kernel_rfl) (fun _ _ _ h => h) (Or.inl ⟨by rfl, ?_⟩) (by assumption) ?_
              rotate_left
              · (intro w hSw; (try dsimp only at hSw); go_simp; try with_reducible rfl)
              try simp only [Act.put, List.setIfInBounds_toArray, List.set_cons_zero, List.set_cons_succ, List.getElem_toArray, List.getElem_cons_succ, List.getElem_cons_zero]
              refine wpTail_done (by kernel_rfl) ?_ _
              clear hHeld 
              have hq34e : ((atA b s t J : Int) == (atA b PS PT J2 : Int)) = true := by have h7 : (atA b s t J : Int) = (atA b PS PT J2 : Int) := hq4.out.symm; simpa using h7
              have hq34n : ((atA b s t J : Int) != (atA b PS PT J2 : Int)) = false := by have h7 : (atA b s t J : Int) = (atA b PS PT J2 : Int) := hq4.out.symm; simpa using h7
              go_wp2_with fail
              go_roundw
              case rel => exact ⟨q + 1, by omega, by go_num, (Bwb_w11.trans (by repeat (first | (with_reducible assumption) | (with_reducible refine Ext.setCell ?_ (by first | (simp; done) | (simp; omega) | omega) _) | (with_reducible apply Ext.alloc) | (with_reducible apply Ext.drew) | (with_reducible apply Ext.drewN) | (with_reducible exact Ext.refl _))))⟩
              case measure => simp [intOf]; omega
            · have hqI : ¬ (q : Int) < cntA s := by rw [hcn.out]; exact hlt2
              go_wp2_with fail
              refine (implCountOf_c s (.slice p1 s.length r1) _ _ (i1.ext (by repeat (first | (with_reducible assumption) | (with_reducible refine Ext.setCell ?_ (by first | (simp; done) | (simp; omega) | omega) _) | (with_reducible apply Ext.alloc) | (with_reducible apply Ext.drew) | (with_reducible apply Ext.drewN) | (with_reducible exact Ext.refl _))))).mono ?_
              rintro e w' ⟨rfl, rfl⟩
              go_wp2_with fail
              refine (leqView_c b (.slice afv27u s.length cfv27u) (.slice afv27v t.length cfv27v) (.slice p1 s.length r1) (.slice p2 t.length r2) s t _ _ _ _ _ (i28u.ext (by repeat (first | (with_reducible assumption) | (with_reducible refine Ext.setCell ?_ (by first | (simp; done) | (simp; omega) | omega) _) | (with_reducible apply Ext.alloc) | (with_reducible apply Ext.drew) | (with_reducible apply Ext.drewN) | (with_reducible exact Ext.refl _)))) (i28v.ext (by repeat (first | (with_reducible assumption) | (with_reducible refine Ext.setCell ?_ (by first | (simp; done) | (simp; omega) | omega) _) | (with_reducible apply Ext.alloc) | (with_reducible apply Ext.drew) | (with_reducible apply Ext.drewN) | (with_reducible exact Ext.refl _)))) (i1.ext (by repeat (first | (with_reducible assumption) | (with_reducible refine Ext.setCell ?_ (by first | (simp; done) | (simp; omega) | omega) _) | (with_reducible apply Ext.alloc) | (with_reducible apply Ext.drew) | (with_reducible apply Ext.drewN) | (with_reducible exact Ext.refl _)))) (i2.ext (by repeat (first | (with_reducible assumption) | (with_reducible refine Ext.setCell ?_ (by first | (simp; done) | (simp; omega) | omega) _) | (with_reducible apply Ext.alloc) | (with_reducible apply Ext.drew) | (with_reducible apply Ext.drewN) | (with_reducible exact Ext.refl _))))).mono ?_
              rintro e w8 ⟨rfl, xw8⟩
              have Lw8 : Ext wb w8 := Ext.trans (by repeat (first | (with_reducible assumption) | (with_reducible refine Ext.setCell ?_ (by first | (simp; done) | (simp; omega) | omega) _) | (with_reducible apply Ext.alloc) | (with_reducible apply Ext.drew) | (with_reducible apply Ext.drewN) | (with_reducible exact Ext.refl _))) xw8
              have Xw8 : Ext w w8 := Xwb.trans Lw8
              replace b90 := Lw8.cell b90
              replace b91 := Lw8.cell b91
              replace b92 := Lw8.cell b92
              replace b120 := Lw8.cell b120
              replace b121 := Lw8.cell b121
              replace b122 := Lw8.cell b122
              replace b150 := Lw8.cell b150
              replace b151 := Lw8.cell b151
              replace b152 := Lw8.cell b152
              replace b290 := Lw8.cell b290
              replace b291 := Lw8.cell b291
              replace b292 := Lw8.cell b292
              have z_b9 : w1.heap.size < w8.heap.size := World.block_lt_of_cell? _ _ b90
              have z_b12 : w2.heap.size < w8.heap.size := World.block_lt_of_cell? _ _ b120
              have z_b15 : w3.heap.size < w8.heap.size := World.block_lt_of_cell? _ _ b150
              have z_b29 : w6.heap.size < w8.heap.size := World.block_lt_of_cell? _ _ b290
              replace i1 := i1.ext Lw8
              replace i2 := i2.ext Lw8
              replace i3 := i3.ext Lw8
              replace i11u := i11u.ext Lw8
              replace i11v := i11v.ext Lw8
              replace i14u := i14u.ext Lw8
              replace i14v := i14v.ext Lw8
              replace O19 := O19.ext Lw8
              replace i28u := i28u.ext Lw8
              replace i28v := i28v.ext Lw8
              have s_w8 : w.heap.size ≤ w8.heap.size := Xw8.size
              have BL17_w8 : Ext w4 w8 := BL17_wb.trans Lw8
              have Bwb_w8 : Ext w7 w8 := Bwb.trans Lw8
              clear xw8
              go_wp2_with fail
              go_ret
              exact ⟨rfl, (Xw8.trans (by repeat (first | (with_reducible assumption) | (with_reducible refine Ext.setCell ?_ (by first | (simp; done) | (simp; omega) | omega) _) | (with_reducible apply Ext.alloc) | (with_reducible apply Ext.drew) | (with_reducible apply Ext.drewN) | (with_reducible exact Ext.refl _))))⟩


end Go.Proofs.Ytonnnjaooifpjaa

/- The law FnPermuteDims holds for all bytes: the call returns true, and its argument reads as it did. No condition. -/
namespace Go.Proofs.Ytonnnjaooifpjaa.rowFnPermuteDims
open Go.ChangeShapes Go.WideShapes Go.ChangeAt Go.RowKit
set_option linter.unusedVariables false

set_option maxHeartbeats 1000000 in
set_option maxRecDepth 100000 in
theorem lifted (os : Os) (started : os.Started) (H : Type) (enc : TypeId × Value → H) :
    ReturnsInHanded {} Try.checked os 13 .any (Rows.fnPermuteDimsSpec.pre6 enc Try.prog Try.f13 Rows.fnPermuteDimsRow.domain false) (Rows.fnPermuteDimsSpec.post enc Try.prog Try.f13 false true false false) := by
  refine returnsInHanded_of_change (C := Try.checked) own started (by kernel_rfl) Try.func13
    (ChangeSpec.witness6 (enc := enc) (C := Try.checked) false ⟨#[], #[.slice none 0 0], []⟩ 8 (by kernel_rfl) (by kernel_rfl) (by kernel_rfl) (by kernel_rfl)) ?_
  intro W base args ds gs before hval0 hW hcnd _
  have hval : ∀ (j : Nat) t v, Try.f13.params[j]? = some t → args[j]? = some v → Value.okWide Try.prog W .any base t v := hval0
  have hW' := hW
  obtain ⟨p, q, hA0, hV, rfl, hfz, hnd⟩ := hW
  have hA : DataW.TrodAll enc Try.prog W 0 (fun _ => true) true Try.f13.params.toList args.toList ds p := hA0
  rw [Try.params13] at hA hval
  obtain ⟨v0, vs0, d0, ds0, p0, q0, hargs0, rfl, rfl, h0, r0⟩ := trodAll_cons hA
  obtain ⟨rfl, rfl, rfl⟩ := trodAll_nil r0
  obtain rfl : args = #[v0] := by cases args; simp_all
  obtain ⟨rfl, rfl⟩ := trodVars_none hV
  obtain ⟨a0, len0, cap0, rfl⟩ := okWide_slice Try.underlying22 (hval 0 22 v0 rfl rfl)
  have k0 := h0
  have lt0 : ∀ x ∈ p0, x.block < W.heap.size := by obtain ⟨m, hm⟩ := k0; exact DataW.trod_lt m _ _ _ hm
  have w0 : BysIn W a0 len0 cap0 := by
    obtain ⟨fuel, hf⟩ := h0
    rcases open_ints Try.underlying22 Try.underlying5 (by kernel_rfl) hf with ⟨hcs, _⟩ | ⟨x, l, c, zs, hcs, _, hl, hm, hz, _, hcell, hwz⟩
    · simp [Value.cells] at hcs
      obtain ⟨rfl, rfl, rfl⟩ := hcs
      exact ⟨Nat.le_refl _, by simp, fun i hi => absurd hi (by simp)⟩
    · simp [Value.cells] at hcs
      obtain ⟨rfl, rfl, rfl⟩ := hcs
      have hzl : zs.length = cap0 := by simpa using hz
      exact bys_of_cells hl hm hzl hcell hwz
  clear hA0 hval0
  refine (lawFnPermuteDims_c a0 len0 cap0 W w0).mono fun e W' ⟨he, bel⟩ => ?_
  subst he
  exact ⟨_, rfl, _, _, _, [], _, [], hW', trodAll_mk1 (shut_bool Try.underlying4 _), (trodAll_cons_mk (Below.trod laidOut (by kernel_rfl) (of_decide_eq_true (by kernel_rfl)) k0 bel lt0) trodAll_mk0), rfl, Below.frame bel _, fun h => by cases h⟩

set_option maxHeartbeats 2000000 in
theorem closed : joinedFacts Try.checked.prog 13 Try.f13 Rows.fnPermuteDimsSpec Rows.fnPermuteDimsRow = true :=
  facts.all (by kernel_rfl) (by kernel_rfl) (by kernel_rfl) (by kernel_rfl) (by kernel_rfl) (by as_aux_lemma => kernel_rfl) (by as_aux_lemma => kernel_rfl) (by as_aux_lemma => kernel_rfl) (by as_aux_lemma => kernel_rfl)
    (by as_aux_lemma => kernel_rfl) (by as_aux_lemma => kernel_rfl) rfl rfl rfl rfl (by kernel_rfl) (by kernel_rfl) (by as_aux_lemma => kernel_rfl) (by as_aux_lemma => kernel_rfl)

theorem named : Try.pinned.checked.prog.funcNamed Rows.fnPermuteDimsRow.func = some 13 := by kernel_rfl

theorem over : Rows.fnPermuteDimsRow.holds Try.pinned (OpenSpec.ofChange Rows.fnPermuteDimsSpec) :=
  OpenClaim.holds_of_wide 13 Try.f13 rfl rfl rfl rfl rfl rfl rfl ⟨rfl, rfl, rfl, rfl, rfl⟩ rfl rfl rfl rfl rfl named Try.func13 closed
    (of_decide_eq_true (by kernel_rfl)) (by unfold Func.isWrapper; exact ⟨rfl, rfl⟩)
    (fun os started H enc _ => lifted os started H enc)

theorem proved : Rows.FnPermuteDimsSaid := over

end Go.Proofs.Ytonnnjaooifpjaa.rowFnPermuteDims
