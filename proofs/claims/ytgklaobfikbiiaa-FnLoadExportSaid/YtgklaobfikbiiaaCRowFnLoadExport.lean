/- Texts of these proofs put together: PvA, LawFnLoadExport, RowFnLoadExport. No condition. -/
import Derived.Test.YtgklaobfikbiiaaM5
import Derived.Test.YtgklaobfikbiiaaM7
import Derived.Test.YtgklaobfikbiiaaM3
import Derived.Test.YtgklaobfikbiiaaM6
set_option linter.unusedVariables false
set_option linter.unusedSimpArgs false
/- Plain laws on buffers: open exports, kids, closed exports. No condition. -/
namespace Go.Proofs.Ytgklaobfikbiiaa
open Go.RowKit
set_option linter.unusedVariables false
set_option maxRecDepth 100000

theorem mem_selL {p : Exp → Bool} {es : List Exp} {n : Nat} {x : Int} : x ∈ selL p es n ↔ ∃ k : Nat, k < n ∧ p (expAt es k) = true ∧ x = k := by
  unfold selL
  simp only [List.mem_map, List.mem_filter, List.mem_range]
  constructor
  · rintro ⟨k, ⟨h1, h2⟩, rfl⟩; exact ⟨k, h1, h2, rfl⟩
  · rintro ⟨k, h1, h2, rfl⟩; exact ⟨k, ⟨h1, h2⟩, rfl⟩
theorem openA_of {cells : List Int} {es : List Exp} (h : bufB cells es = true) : openA cells es = selL opP es es.length := by unfold openA; rw [h]; rfl
theorem opB_iff {es : List Exp} {x : Int} : opB es x = true ↔ x ∈ selL opP es es.length := by
  constructor
  · intro h
    obtain ⟨h0, h1, h2⟩ := opB_in h
    exact mem_selL.2 ⟨x.toNat, h1, h2, by omega⟩
  · intro h
    obtain ⟨k, hk, hp, rfl⟩ := mem_selL.1 h
    rw [opB_nat hk]; exact hp
/-- an open export, seen as a number -/
theorem open_law {cells : List Int} {es : List Exp} {x : Int} (h : bufB cells es = true) (hx : decide (x ∈ openA cells es) = true) : opB es x = true := by
  rw [openA_of h] at hx
  exact opB_iff.2 (of_decide_eq_true hx)
theorem openA_in {cells : List Int} {es : List Exp} {x : Int} (h : decide (x ∈ openA cells es) = true) : 0 ≤ x ∧ x < es.length := by
  have hb : bufB cells es = true := by
    cases hb : bufB cells es
    · unfold openA at h; rw [hb] at h; simp at h
    · rfl
  obtain ⟨h0, h1, -⟩ := opB_in (open_law hb h)
  omega
theorem load_lawk {cells : List Int} {es : List Exp} {k : Nat} (hk : k < es.length) (h : bufB cells es = true) (hx : decide ((k : Int) ∈ openA cells es) = true) :
    loadX cells es (k : Int) = loadA cells (expAt es k).b (expAt es k).s (expAt es k).t := by
  have ho := open_law h hx
  have hh := open_holds h ho
  rw [Int.toNat_natCast] at hh
  unfold loadX loadA
  rw [h, ho, hh, Int.toNat_natCast]; rfl
end Go.Proofs.Ytgklaobfikbiiaa

/- FnLoadExport returns true for all bytes: no condition. -/
namespace Go.Proofs.Ytgklaobfikbiiaa
open Go.RowKit
set_option linter.unusedVariables false
set_option maxRecDepth 100000

set_option maxHeartbeats 6400000 in
theorem lawFnLoadExport_c (a : Option Addr) (n cap : Nat) (w : World) (hb : BysIn w a n cap) :
  Calls Try.prog 6 #[.slice a n cap] w fun e w' => e = .returned (.bool true) ∧ Ext w w' := by
 have hcm := hb.1
 have hcm2 := hb.2.1
 unfold maxLen at hcm2
 go_enter Try.func6, Try.ntmps6
 by_cases hc1 : (1048576 : Int) < (n : Int)
 ·
  go_wp2_with fail
  go_ret
  exact ⟨rfl, qXo⟩
 ·
  go_wp2_with fail
  refine (drawLoadExport_c a n cap _ hb).mono ?_
  rintro e w1 ⟨cells, es, p0, p1, c0, c1, x, rfl, i1, i2, hs, hx5, xw1⟩
  have Lw1 : Ext w w1 := Ext.trans qXt xw1
  have Xw1 : Ext w w1 := Lw1
  have s_w1 : w.heap.size ≤ w1.heap.size := Xw1.size
  clear xw1
  clear hb
  have hc61 := hs.out.1
  have he9 := hs.out.2.1
  by_cases hxk : 0 ≤ x ∧ x < (es.length : Int)
  ·
   obtain ⟨k, rfl⟩ : ∃ k : Nat, x = k := ⟨x.toNat, by omega⟩
   have hlt : k < es.length := by omega
   go_wp2_with fail
   refine (implLoadExport_c cells es (.slice p0 cells.length c0) (.slice p1 es.length c1) (k : Int) _ _ _ (i1.ext qXt) (i2.ext qXt)).mono ?_
   rintro e w2 ⟨fv3, rfl, i4, -, xw2⟩
   have Lw2 : Ext w1 w2 := Ext.trans qXt xw2
   have Xw2 : Ext w w2 := Xw1.trans Lw2
   have b20 : w2.cell? ⟨w1.heap.size, 0, none⟩ = some (.slice p0 cells.length c0) := xw2.cell qCl
   have b21 : w2.cell? ⟨w1.heap.size, 1, none⟩ = some (.slice p1 es.length c1) := xw2.cell qCl
   have z_b2 : w1.heap.size < w2.heap.size := qB b20
   replace i1 := i1.ext Lw2
   replace i2 := i2.ext Lw2
   have s_w2 : w.heap.size ≤ w2.heap.size := Xw2.size
   clear xw2
   try simp only [World.size_alloc, World.size_drew] at i4
   obtain ⟨afv3, cfv3, rfl⟩ := i4.form
   go_wp2_with fail
   refine (specLoadExport_c cells es (.slice p0 cells.length c0) (.slice p1 es.length c1) (k : Int) _ _ _ (i1.ext qXt) (i2.ext qXt)).mono ?_
   rintro e w3 ⟨fv5, rfl, i6, -, xw3⟩
   have Lw3 : Ext w2 w3 := Ext.trans qXt xw3
   have Xw3 : Ext w w3 := Xw2.trans Lw3
   replace b20 := Lw3.cell b20
   replace b21 := Lw3.cell b21
   have z_b2 : w1.heap.size < w3.heap.size := qB b20
   replace i1 := i1.ext Lw3
   replace i2 := i2.ext Lw3
   replace i4 := i4.ext Lw3
   have s_w3 : w.heap.size ≤ w3.heap.size := Xw3.size
   clear xw3
   obtain ⟨afv5, cfv5, rfl⟩ := i6.form
   go_wp2_with fail
   refine (leqInts_e (loadX cells es (k : Int)) (loadX cells es (k : Int)) (.slice afv3 ((loadX cells es (k : Int)).length) cfv3) (.slice afv5 ((loadX cells es (k : Int)).length) cfv5) _ _ _ (i4.ext qXt) (i6.ext qXt) rfl).mono ?_
   rintro e w4 ⟨rfl, xw4⟩
   have Lw4 : Ext w3 w4 := Ext.trans qXt xw4
   have Xw4 : Ext w w4 := Xw3.trans Lw4
   replace b20 := Lw4.cell b20
   replace b21 := Lw4.cell b21
   have z_b2 : w1.heap.size < w4.heap.size := qB b20
   replace i1 := i1.ext Lw4
   replace i2 := i2.ext Lw4
   replace i4 := i4.ext Lw4
   replace i6 := i6.ext Lw4
   have s_w4 : w.heap.size ≤ w4.heap.size := Xw4.size
   clear xw4
   go_wp2_with fail
   refine (implValidBuffer_c cells es (.slice p0 cells.length c0) (.slice p1 es.length c1) _ _ _ (i1.ext qXt) (i2.ext qXt)).mono ?_
   rintro e w5 ⟨rfl, xw5⟩
   have Lw5 : Ext w4 w5 := Ext.trans qXt xw5
   have Xw5 : Ext w w5 := Xw4.trans Lw5
   replace b20 := Lw5.cell b20
   replace b21 := Lw5.cell b21
   have z_b2 : w1.heap.size < w5.heap.size := qB b20
   replace i1 := i1.ext Lw5
   replace i2 := i2.ext Lw5
   replace i4 := i4.ext Lw5
   replace i6 := i6.ext Lw5
   have s_w5 : w.heap.size ≤ w5.heap.size := Xw5.size
   clear xw5
   cases hB7 : bufB cells es
   ·
    replace hB7 := Lib.hid hB7
    go_wp2_with fail
    refine (specLoadExport_c cells es (.slice p0 cells.length c0) (.slice p1 es.length c1) (k : Int) _ _ _ (i1.ext qXt) (i2.ext qXt)).mono ?_
    rintro e w6 ⟨fv8, rfl, i9, -, xw6⟩
    have Lw6 : Ext w5 w6 := Ext.trans qXt xw6
    have Xw6 : Ext w w6 := Xw5.trans Lw6
    replace b20 := Lw6.cell b20
    replace b21 := Lw6.cell b21
    have z_b2 : w1.heap.size < w6.heap.size := qB b20
    replace i1 := i1.ext Lw6
    replace i2 := i2.ext Lw6
    replace i4 := i4.ext Lw6
    replace i6 := i6.ext Lw6
    have s_w6 : w.heap.size ≤ w6.heap.size := Xw6.size
    clear xw6
    obtain ⟨afv8, cfv8, rfl⟩ := i9.form
    go_wp2_with fail
    refine (leqInts_e (loadX cells es (k : Int)) (loadX cells es (k : Int)) (.slice afv3 ((loadX cells es (k : Int)).length) cfv3) (.slice afv8 ((loadX cells es (k : Int)).length) cfv8) _ _ _ (i4.ext qXt) (i9.ext qXt) rfl).mono ?_
    rintro e w7 ⟨rfl, xw7⟩
    have Lw7 : Ext w6 w7 := Ext.trans qXt xw7
    have Xw7 : Ext w w7 := Xw6.trans Lw7
    replace b20 := Lw7.cell b20
    replace b21 := Lw7.cell b21
    have z_b2 : w1.heap.size < w7.heap.size := qB b20
    replace i1 := i1.ext Lw7
    replace i2 := i2.ext Lw7
    replace i4 := i4.ext Lw7
    replace i6 := i6.ext Lw7
    replace i9 := i9.ext Lw7
    have s_w7 : w.heap.size ≤ w7.heap.size := Xw7.size
    clear xw7
    go_wp2_with fail
    go_ret
    exact ⟨rfl, (Xw7.trans qXt)⟩
   ·
    replace hB7 := Lib.hid hB7
    go_wp2_with fail
    refine (implOpenOf_c cells es (.slice p0 cells.length c0) (.slice p1 es.length c1) _ _ _ (i1.ext qXt) (i2.ext qXt)).mono ?_
    rintro e w6 ⟨fv10, rfl, i11, -, xw6⟩
    have Lw6 : Ext w5 w6 := Ext.trans qXt xw6
    have Xw6 : Ext w w6 := Xw5.trans Lw6
    replace b20 := Lw6.cell b20
    replace b21 := Lw6.cell b21
    have z_b2 : w1.heap.size < w6.heap.size := qB b20
    replace i1 := i1.ext Lw6
    replace i2 := i2.ext Lw6
    replace i4 := i4.ext Lw6
    replace i6 := i6.ext Lw6
    have s_w6 : w.heap.size ≤ w6.heap.size := Xw6.size
    clear xw6
    obtain ⟨afv10, cfv10, rfl⟩ := i11.form
    go_wp2_with fail
    refine (isIn_c (openA cells es) (k : Int) (.slice afv10 ((openA cells es).length) cfv10) _ _ (i11.ext qXt)).mono ?_
    rintro e w7 ⟨rfl, xw7⟩
    have Lw7 : Ext w6 w7 := Ext.trans qXt xw7
    have Xw7 : Ext w w7 := Xw6.trans Lw7
    replace b20 := Lw7.cell b20
    replace b21 := Lw7.cell b21
    have z_b2 : w1.heap.size < w7.heap.size := qB b20
    replace i1 := i1.ext Lw7
    replace i2 := i2.ext Lw7
    replace i4 := i4.ext Lw7
    replace i6 := i6.ext Lw7
    replace i11 := i11.ext Lw7
    have s_w7 : w.heap.size ≤ w7.heap.size := Xw7.size
    clear xw7
    cases hB12 : decide ((k : Int) ∈ (openA cells es))
    ·
     replace hB12 := Lib.hid hB12
     go_wp2_with fail
     refine (specLoadExport_c cells es (.slice p0 cells.length c0) (.slice p1 es.length c1) (k : Int) _ _ _ (i1.ext qXt) (i2.ext qXt)).mono ?_
     rintro e w8 ⟨fv13, rfl, i14, -, xw8⟩
     have Lw8 : Ext w7 w8 := Ext.trans qXt xw8
     have Xw8 : Ext w w8 := Xw7.trans Lw8
     replace b20 := Lw8.cell b20
     replace b21 := Lw8.cell b21
     have z_b2 : w1.heap.size < w8.heap.size := qB b20
     replace i1 := i1.ext Lw8
     replace i2 := i2.ext Lw8
     replace i4 := i4.ext Lw8
     replace i6 := i6.ext Lw8
     replace i11 := i11.ext Lw8
     have s_w8 : w.heap.size ≤ w8.heap.size := Xw8.size
     clear xw8
     obtain ⟨afv13, cfv13, rfl⟩ := i14.form
     go_wp2_with fail
     refine (leqInts_e (loadX cells es (k : Int)) (loadX cells es (k : Int)) (.slice afv3 ((loadX cells es (k : Int)).length) cfv3) (.slice afv13 ((loadX cells es (k : Int)).length) cfv13) _ _ _ (i4.ext qXt) (i14.ext qXt) rfl).mono ?_
     rintro e w9 ⟨rfl, xw9⟩
     have Lw9 : Ext w8 w9 := Ext.trans qXt xw9
     have Xw9 : Ext w w9 := Xw8.trans Lw9
     replace b20 := Lw9.cell b20
     replace b21 := Lw9.cell b21
     have z_b2 : w1.heap.size < w9.heap.size := qB b20
     replace i1 := i1.ext Lw9
     replace i2 := i2.ext Lw9
     replace i4 := i4.ext Lw9
     replace i6 := i6.ext Lw9
     replace i11 := i11.ext Lw9
     replace i14 := i14.ext Lw9
     have s_w9 : w.heap.size ≤ w9.heap.size := Xw9.size
     clear xw9
     go_wp2_with fail
     go_ret
     exact ⟨rfl, (Xw9.trans qXt)⟩
    ·
     replace hB12 := Lib.hid hB12
     go_wp2_with fail
     have hN_x15 : k < es.length := hlt
     have hI_x15 : (k : Int) < (es.length : Int) := by omega
     obtain ⟨bl28, ol29, u22, c23, u24, c25, rfl, x150, x151, x152, x153, x154, i26, i27⟩ := i2.at k hN_x15
     obtain ⟨X21, hX21⟩ : ∃ x, expAt es k = x := ⟨_, rfl⟩
     rw [hX21] at x150 x151 x152 x153 x154 i26 i27
     obtain ⟨P16, B17, S18, T19, O20⟩ := X21
     dsimp only at x150 x151 x152 x153 x154 i26 i27
     replace hX21 := Lib.hid hX21
     have hLS18 := i26.len
     have hLT19 := i27.len
     have z_x15 : bl28 < w7.heap.size := qB x150
     go_wp2_with fail
     refine wp_region_tail (S := fun w' => w'.cell? ⟨w1.heap.size, 0, none⟩ = some (.slice p0 cells.length c0) ∧ w'.cell? ⟨w1.heap.size, 1, none⟩ = some (.slice (some ⟨bl28, ol29, none⟩) es.length c1) ∧ w'.cell? ⟨bl28, ol29 + k * 5 + 1, none⟩ = some (.int .i64 B17) ∧ w'.cell? ⟨bl28, ol29 + k * 5 + 2, none⟩ = some (.slice u22 S18.length c23) ∧ w'.cell? ⟨bl28, ol29 + k * 5 + 3, none⟩ = some (.slice u24 T19.length c25)) (fun i => decide (12 ≤ i)) qKr ⟨b20, b21, x151, x152, x153⟩ (fun hHeld => ?_)
     refine qTk (v := ?_) 0 rfl (.inl ⟨by rfl, ?_⟩) ?_
     rotate_left
     ·
      (intro w hSw; (try dsimp only at hSw); go_simp; try with_reducible rfl)
     try simp only [Act.put, qa, qb, qc, qD, qE, qF]
     refine qTk (v := ?_) 1 rfl (.inl ⟨by rfl, ?_⟩) ?_
     rotate_left
     ·
      (intro w hSw; (try dsimp only at hSw); go_simp; try with_reducible rfl)
     try simp only [Act.put, qa, qb, qc, qD, qE, qF]
     refine qTk (v := ?_) 2 rfl (.inl ⟨by rfl, ?_⟩) ?_
     rotate_left
     ·
      (intro w hSw; (try dsimp only at hSw); go_simp; try with_reducible rfl)
     try simp only [Act.put, qa, qb, qc, qD, qE, qF]
     refine qTk (v := ?_) 3 rfl (.inl ⟨by rfl, ?_⟩) ?_
     rotate_left
     ·
      (intro w hSw; (try dsimp only at hSw); go_simp; try with_reducible rfl)
     try simp only [Act.put, qa, qb, qc, qD, qE, qF]
     refine qTk (v := ?_) 4 rfl (.inl ⟨by rfl, ?_⟩) ?_
     rotate_left
     ·
      (intro w hSw; (try dsimp only at hSw); go_simp; try with_reducible rfl)
     try simp only [Act.put, qa, qb, qc, qD, qE, qF]
     refine qTk (v := ?_) 5 rfl (.inl ⟨by rfl, ?_⟩) ?_
     rotate_left
     ·
      (intro w hSw; (try dsimp only at hSw); go_simp; try with_reducible rfl)
     try simp only [Act.put, qa, qb, qc, qD, qE, qF]
     refine qTk (v := ?_) 6 rfl (.inl ⟨by rfl, ?_⟩) ?_
     rotate_left
     ·
      (intro w hSw; (try dsimp only at hSw); go_simp; try with_reducible rfl)
     try simp only [Act.put, qa, qb, qc, qD, qE, qF]
     refine qTk (v := ?_) 7 rfl (.inl ⟨by rfl, ?_⟩) ?_
     rotate_left
     ·
      (intro w hSw; (try dsimp only at hSw); go_simp; try with_reducible rfl)
     try simp only [Act.put, qa, qb, qc, qD, qE, qF]
     refine qTk (v := ?_) 8 rfl (.inl ⟨by rfl, ?_⟩) ?_
     rotate_left
     ·
      (intro w hSw; (try dsimp only at hSw); go_simp; try with_reducible rfl)
     try simp only [Act.put, qa, qb, qc, qD, qE, qF]
     refine wpTail_one (i := 9) qKr rfl rfl (fun K hK => ?_)
     try simp only [Act.put, qa, qb, qc, qD, qE, qF]
     go_simp
     refine (implLoadView_c cells (.slice p0 cells.length c0) B17 (.slice u22 S18.length c23) (.slice u24 T19.length c25) S18 T19 _ _ _ _ (i1.ext qXt) (i26.ext qXt) (i27.ext qXt)).mono ?_
     rintro e w8 ⟨fv30, rfl, i31, -, xw8⟩
     have Lw8 : Ext w7 w8 := Ext.trans qXt xw8
     have Xw8 : Ext w w8 := Xw7.trans Lw8
     replace b20 := Lw8.cell b20
     replace b21 := Lw8.cell b21
     replace x150 := Lw8.cell x150
     replace x151 := Lw8.cell x151
     replace x152 := Lw8.cell x152
     replace x153 := Lw8.cell x153
     replace x154 := Lw8.cell x154
     have z_b2 : w1.heap.size < w8.heap.size := qB b20
     have z_x15 : bl28 < w8.heap.size := qB x150
     replace i1 := i1.ext Lw8
     replace i2 := i2.ext Lw8
     replace i4 := i4.ext Lw8
     replace i6 := i6.ext Lw8
     replace i11 := i11.ext Lw8
     replace i26 := i26.ext Lw8
     replace i27 := i27.ext Lw8
     have s_w8 : w.heap.size ≤ w8.heap.size := Xw8.size
     clear xw8
     try simp only [World.size_alloc, World.size_drew] at i31
     obtain ⟨afv30, cfv30, rfl⟩ := i31.form
     refine hK.out _ _ ⟨b20, b21, x151, x152, x153⟩ (fun hHeld => ?_)
     clear hK K
     try simp only [Act.put, qa, qb, qc, qD, qE, qF]
     refine wpTail_one (i := 10) qKr rfl rfl (fun K hK => ?_)
     try simp only [Act.put, qa, qb, qc, qD, qE, qF]
     go_simp
     refine (leqInts_e (loadX cells es (k : Int)) (loadA cells B17 S18 T19) (.slice afv3 ((loadX cells es (k : Int)).length) cfv3) (.slice afv30 ((loadA cells B17 S18 T19).length) cfv30) _ _ _ (i4.ext qXt) (i31.ext qXt) (by have h7 := load_lawk hlt hB7.out hB12.out; rw [hX21.out] at h7; exact h7)).mono ?_
     rintro e w9 ⟨rfl, xw9⟩
     have Lw9 : Ext w8 w9 := Ext.trans qXt xw9
     have Xw9 : Ext w w9 := Xw8.trans Lw9
     replace b20 := Lw9.cell b20
     replace b21 := Lw9.cell b21
     replace x150 := Lw9.cell x150
     replace x151 := Lw9.cell x151
     replace x152 := Lw9.cell x152
     replace x153 := Lw9.cell x153
     replace x154 := Lw9.cell x154
     have z_b2 : w1.heap.size < w9.heap.size := qB b20
     have z_x15 : bl28 < w9.heap.size := qB x150
     replace i1 := i1.ext Lw9
     replace i2 := i2.ext Lw9
     replace i4 := i4.ext Lw9
     replace i6 := i6.ext Lw9
     replace i11 := i11.ext Lw9
     replace i26 := i26.ext Lw9
     replace i27 := i27.ext Lw9
     replace i31 := i31.ext Lw9
     have s_w9 : w.heap.size ≤ w9.heap.size := Xw9.size
     clear xw9
     refine hK.out _ _ ⟨b20, b21, x151, x152, x153⟩ (fun hHeld => ?_)
     clear hK K
     try simp only [Act.put, qa, qb, qc, qD, qE, qF]
     refine qTk (v := ?_) 11 rfl (.inl ⟨by rfl, ?_⟩) ?_
     rotate_left
     ·
      (intro w hSw; (try dsimp only at hSw); go_simp; try with_reducible rfl)
     try simp only [Act.put, qa, qb, qc, qD, qE, qF]
     refine wpTail_done qKr ?_ _
     clear hHeld 
     go_wp2_with fail
     go_ret
     exact ⟨rfl, (Xw9.trans qXt)⟩
  ·
   have hno : Hid (decide (x ∈ openA cells es) = true → False) := Lib.hid (fun h7 => by have h8 := openA_in h7; omega)
   go_wp2_with fail
   refine (implLoadExport_c cells es (.slice p0 cells.length c0) (.slice p1 es.length c1) x _ _ _ (i1.ext qXt) (i2.ext qXt)).mono ?_
   rintro e w2 ⟨fv33, rfl, i34, -, xw2⟩
   have Lw2 : Ext w1 w2 := Ext.trans qXt xw2
   have Xw2 : Ext w w2 := Xw1.trans Lw2
   have b320 : w2.cell? ⟨w1.heap.size, 0, none⟩ = some (.slice p0 cells.length c0) := xw2.cell qCl
   have b321 : w2.cell? ⟨w1.heap.size, 1, none⟩ = some (.slice p1 es.length c1) := xw2.cell qCl
   have z_b32 : w1.heap.size < w2.heap.size := qB b320
   replace i1 := i1.ext Lw2
   replace i2 := i2.ext Lw2
   have s_w2 : w.heap.size ≤ w2.heap.size := Xw2.size
   clear xw2
   try simp only [World.size_alloc, World.size_drew] at i34
   obtain ⟨afv33, cfv33, rfl⟩ := i34.form
   go_wp2_with fail
   refine (specLoadExport_c cells es (.slice p0 cells.length c0) (.slice p1 es.length c1) x _ _ _ (i1.ext qXt) (i2.ext qXt)).mono ?_
   rintro e w3 ⟨fv35, rfl, i36, -, xw3⟩
   have Lw3 : Ext w2 w3 := Ext.trans qXt xw3
   have Xw3 : Ext w w3 := Xw2.trans Lw3
   replace b320 := Lw3.cell b320
   replace b321 := Lw3.cell b321
   have z_b32 : w1.heap.size < w3.heap.size := qB b320
   replace i1 := i1.ext Lw3
   replace i2 := i2.ext Lw3
   replace i34 := i34.ext Lw3
   have s_w3 : w.heap.size ≤ w3.heap.size := Xw3.size
   clear xw3
   obtain ⟨afv35, cfv35, rfl⟩ := i36.form
   go_wp2_with fail
   refine (leqInts_e (loadX cells es x) (loadX cells es x) (.slice afv33 ((loadX cells es x).length) cfv33) (.slice afv35 ((loadX cells es x).length) cfv35) _ _ _ (i34.ext qXt) (i36.ext qXt) rfl).mono ?_
   rintro e w4 ⟨rfl, xw4⟩
   have Lw4 : Ext w3 w4 := Ext.trans qXt xw4
   have Xw4 : Ext w w4 := Xw3.trans Lw4
   replace b320 := Lw4.cell b320
   replace b321 := Lw4.cell b321
   have z_b32 : w1.heap.size < w4.heap.size := qB b320
   replace i1 := i1.ext Lw4
   replace i2 := i2.ext Lw4
   replace i34 := i34.ext Lw4
   replace i36 := i36.ext Lw4
   have s_w4 : w.heap.size ≤ w4.heap.size := Xw4.size
   clear xw4
   go_wp2_with fail
   refine (implValidBuffer_c cells es (.slice p0 cells.length c0) (.slice p1 es.length c1) _ _ _ (i1.ext qXt) (i2.ext qXt)).mono ?_
   rintro e w5 ⟨rfl, xw5⟩
   have Lw5 : Ext w4 w5 := Ext.trans qXt xw5
   have Xw5 : Ext w w5 := Xw4.trans Lw5
   replace b320 := Lw5.cell b320
   replace b321 := Lw5.cell b321
   have z_b32 : w1.heap.size < w5.heap.size := qB b320
   replace i1 := i1.ext Lw5
   replace i2 := i2.ext Lw5
   replace i34 := i34.ext Lw5
   replace i36 := i36.ext Lw5
   have s_w5 : w.heap.size ≤ w5.heap.size := Xw5.size
   clear xw5
   cases hB37 : bufB cells es
   ·
    replace hB37 := Lib.hid hB37
    go_wp2_with fail
    refine (specLoadExport_c cells es (.slice p0 cells.length c0) (.slice p1 es.length c1) x _ _ _ (i1.ext qXt) (i2.ext qXt)).mono ?_
    rintro e w6 ⟨fv38, rfl, i39, -, xw6⟩
    have Lw6 : Ext w5 w6 := Ext.trans qXt xw6
    have Xw6 : Ext w w6 := Xw5.trans Lw6
    replace b320 := Lw6.cell b320
    replace b321 := Lw6.cell b321
    have z_b32 : w1.heap.size < w6.heap.size := qB b320
    replace i1 := i1.ext Lw6
    replace i2 := i2.ext Lw6
    replace i34 := i34.ext Lw6
    replace i36 := i36.ext Lw6
    have s_w6 : w.heap.size ≤ w6.heap.size := Xw6.size
    clear xw6
    obtain ⟨afv38, cfv38, rfl⟩ := i39.form
    go_wp2_with fail
    refine (leqInts_e (loadX cells es x) (loadX cells es x) (.slice afv33 ((loadX cells es x).length) cfv33) (.slice afv38 ((loadX cells es x).length) cfv38) _ _ _ (i34.ext qXt) (i39.ext qXt) rfl).mono ?_
    rintro e w7 ⟨rfl, xw7⟩
    have Lw7 : Ext w6 w7 := Ext.trans qXt xw7
    have Xw7 : Ext w w7 := Xw6.trans Lw7
    replace b320 := Lw7.cell b320
    replace b321 := Lw7.cell b321
    have z_b32 : w1.heap.size < w7.heap.size := qB b320
    replace i1 := i1.ext Lw7
    replace i2 := i2.ext Lw7
    replace i34 := i34.ext Lw7
    replace i36 := i36.ext Lw7
    replace i39 := i39.ext Lw7
    have s_w7 : w.heap.size ≤ w7.heap.size := Xw7.size
    clear xw7
    go_wp2_with fail
    go_ret
    exact ⟨rfl, (Xw7.trans qXt)⟩
   ·
    replace hB37 := Lib.hid hB37
    go_wp2_with fail
    refine (implOpenOf_c cells es (.slice p0 cells.length c0) (.slice p1 es.length c1) _ _ _ (i1.ext qXt) (i2.ext qXt)).mono ?_
    rintro e w6 ⟨fv40, rfl, i41, -, xw6⟩
    have Lw6 : Ext w5 w6 := Ext.trans qXt xw6
    have Xw6 : Ext w w6 := Xw5.trans Lw6
    replace b320 := Lw6.cell b320
    replace b321 := Lw6.cell b321
    have z_b32 : w1.heap.size < w6.heap.size := qB b320
    replace i1 := i1.ext Lw6
    replace i2 := i2.ext Lw6
    replace i34 := i34.ext Lw6
    replace i36 := i36.ext Lw6
    have s_w6 : w.heap.size ≤ w6.heap.size := Xw6.size
    clear xw6
    obtain ⟨afv40, cfv40, rfl⟩ := i41.form
    go_wp2_with fail
    refine (isIn_c (openA cells es) x (.slice afv40 ((openA cells es).length) cfv40) _ _ (i41.ext qXt)).mono ?_
    rintro e w7 ⟨rfl, xw7⟩
    have Lw7 : Ext w6 w7 := Ext.trans qXt xw7
    have Xw7 : Ext w w7 := Xw6.trans Lw7
    replace b320 := Lw7.cell b320
    replace b321 := Lw7.cell b321
    have z_b32 : w1.heap.size < w7.heap.size := qB b320
    replace i1 := i1.ext Lw7
    replace i2 := i2.ext Lw7
    replace i34 := i34.ext Lw7
    replace i36 := i36.ext Lw7
    replace i41 := i41.ext Lw7
    have s_w7 : w.heap.size ≤ w7.heap.size := Xw7.size
    clear xw7
    rw [(show decide (x ∈ openA cells es) = false by cases h7 : decide (x ∈ openA cells es) with | false => rfl | true => exact absurd h7 hno.out)]
    go_wp2_with fail
    refine (specLoadExport_c cells es (.slice p0 cells.length c0) (.slice p1 es.length c1) x _ _ _ (i1.ext qXt) (i2.ext qXt)).mono ?_
    rintro e w8 ⟨fv42, rfl, i43, -, xw8⟩
    have Lw8 : Ext w7 w8 := Ext.trans qXt xw8
    have Xw8 : Ext w w8 := Xw7.trans Lw8
    replace b320 := Lw8.cell b320
    replace b321 := Lw8.cell b321
    have z_b32 : w1.heap.size < w8.heap.size := qB b320
    replace i1 := i1.ext Lw8
    replace i2 := i2.ext Lw8
    replace i34 := i34.ext Lw8
    replace i36 := i36.ext Lw8
    replace i41 := i41.ext Lw8
    have s_w8 : w.heap.size ≤ w8.heap.size := Xw8.size
    clear xw8
    obtain ⟨afv42, cfv42, rfl⟩ := i43.form
    go_wp2_with fail
    refine (leqInts_e (loadX cells es x) (loadX cells es x) (.slice afv33 ((loadX cells es x).length) cfv33) (.slice afv42 ((loadX cells es x).length) cfv42) _ _ _ (i34.ext qXt) (i43.ext qXt) rfl).mono ?_
    rintro e w9 ⟨rfl, xw9⟩
    have Lw9 : Ext w8 w9 := Ext.trans qXt xw9
    have Xw9 : Ext w w9 := Xw8.trans Lw9
    replace b320 := Lw9.cell b320
    replace b321 := Lw9.cell b321
    have z_b32 : w1.heap.size < w9.heap.size := qB b320
    replace i1 := i1.ext Lw9
    replace i2 := i2.ext Lw9
    replace i34 := i34.ext Lw9
    replace i36 := i36.ext Lw9
    replace i41 := i41.ext Lw9
    replace i43 := i43.ext Lw9
    have s_w9 : w.heap.size ≤ w9.heap.size := Xw9.size
    clear xw9
    go_wp2_with fail
    go_ret
    exact ⟨rfl, (Xw9.trans qXt)⟩


end Go.Proofs.Ytgklaobfikbiiaa

/- The law FnLoadExport holds for all bytes: the call returns true, and its argument reads as it did. No condition. -/
namespace Go.Proofs.Ytgklaobfikbiiaa.rowFnLoadExport
open Go.ChangeShapes Go.WideShapes Go.ChangeAt Go.RowKit
set_option linter.unusedVariables false

set_option maxHeartbeats 1000000 in
set_option maxRecDepth 100000 in
theorem lifted (os : Os) (started : os.Started) (H : Type) (enc : TypeId × Value → H) :
    ReturnsInHanded {} Try.checked os 6 .any (Rows.fnLoadExportSpec.pre6 enc Try.prog Try.f6 Rows.fnLoadExportRow.domain false) (Rows.fnLoadExportSpec.post enc Try.prog Try.f6 false true false false) := by
  refine returnsInHanded_of_change (C := Try.checked) own started qKr Try.func6
    (ChangeSpec.witness6 (enc := enc) (C := Try.checked) false ⟨#[], #[.slice none 0 0], []⟩ 8 qKr qKr qKr qKr) ?_
  intro W base args ds gs before hval0 hW hcnd _
  have hval : ∀ (j : Nat) t v, Try.f6.params[j]? = some t → args[j]? = some v → Value.okWide Try.prog W .any base t v := hval0
  have hW' := hW
  obtain ⟨p, q, hA0, hV, rfl, hfz, hnd⟩ := hW
  have hA : DataW.TrodAll enc Try.prog W 0 (fun _ => true) true Try.f6.params.toList args.toList ds p := hA0
  rw [Try.params6] at hA hval
  obtain ⟨v0, vs0, d0, ds0, p0, q0, hargs0, rfl, rfl, h0, r0⟩ := trodAll_cons hA
  obtain ⟨rfl, rfl, rfl⟩ := trodAll_nil r0
  obtain rfl : args = #[v0] := by cases args; simp_all
  obtain ⟨rfl, rfl⟩ := trodVars_none hV
  obtain ⟨a0, len0, cap0, rfl⟩ := okWide_slice Try.underlying22 (hval 0 22 v0 rfl rfl)
  have k0 := h0
  have lt0 : ∀ x ∈ p0, x.block < W.heap.size := by obtain ⟨m, hm⟩ := k0; exact DataW.trod_lt m _ _ _ hm
  have w0 : BysIn W a0 len0 cap0 := by
    obtain ⟨fuel, hf⟩ := h0
    rcases open_ints Try.underlying22 Try.underlying5 qKr hf with ⟨hcs, _⟩ | ⟨x, l, c, zs, hcs, _, hl, hm, hz, _, hcell, hwz⟩
    · simp [Value.cells] at hcs
      obtain ⟨rfl, rfl, rfl⟩ := hcs
      exact ⟨Nat.le_refl _, by simp, fun i hi => absurd hi (by simp)⟩
    · simp [Value.cells] at hcs
      obtain ⟨rfl, rfl, rfl⟩ := hcs
      have hzl : zs.length = cap0 := by simpa using hz
      exact bys_of_cells hl hm hzl hcell hwz
  clear hA0 hval0
  refine (lawFnLoadExport_c a0 len0 cap0 W w0).mono fun e W' ⟨he, bel⟩ => ?_
  subst he
  exact ⟨_, rfl, _, _, _, [], _, [], hW', trodAll_mk1 (shut_bool Try.underlying4 _), (trodAll_cons_mk (Below.trod laidOut qKr (of_decide_eq_true qKr) k0 bel lt0) trodAll_mk0), rfl, Below.frame bel _, fun h => by cases h⟩

set_option maxHeartbeats 2000000 in
theorem closed : joinedFacts Try.checked.prog 6 Try.f6 Rows.fnLoadExportSpec Rows.fnLoadExportRow = true :=
  facts.all qKr qKr qKr qKr qKr (by as_aux_lemma => kernel_rfl) (by as_aux_lemma => kernel_rfl) (by as_aux_lemma => kernel_rfl) (by as_aux_lemma => kernel_rfl)
    (by as_aux_lemma => kernel_rfl) (by as_aux_lemma => kernel_rfl) rfl rfl rfl rfl qKr qKr (by as_aux_lemma => kernel_rfl) (by as_aux_lemma => kernel_rfl)

theorem named : Try.pinned.checked.prog.funcNamed Rows.fnLoadExportRow.func = some 6 := by kernel_rfl

theorem over : Rows.fnLoadExportRow.holds Try.pinned (OpenSpec.ofChange Rows.fnLoadExportSpec) :=
  OpenClaim.holds_of_wide 6 Try.f6 rfl rfl rfl rfl rfl rfl rfl ⟨rfl, rfl, rfl, rfl, rfl⟩ rfl rfl rfl rfl rfl named Try.func6 closed
    (of_decide_eq_true qKr) (by unfold Func.isWrapper; exact ⟨rfl, rfl⟩)
    (fun os started H enc _ => lifted os started H enc)

theorem proved : Rows.FnLoadExportSaid := over

end Go.Proofs.Ytgklaobfikbiiaa.rowFnLoadExport
