/- Texts of these proofs put together: FvE, KitE, Rec, RlA, RlT, RlL, PoA, FvF, FvG, LvR, ExA, LawFnFieldView, RowFnFieldView. No condition. -/
import Derived.Test.YtpgkhjmboiepcaaD1RowFnFieldView
import Derived.Test.YtpgkhjmboiepcaaM1
set_option linter.unusedVariables false
set_option linter.unusedSimpArgs false
/- Walks: FieldView of the reference. -/
namespace Go.Proofs.Ytpgkhjmboiepcaa
open Go.RowKit
set_option linter.unusedVariables false
set_option maxRecDepth 100000

theorem made_fld {al big : Bool} {xs : List Int} {kn : Nat} {many : Int} (hf : fmtB xs = true) (hk : kn < xs.length) (hm : 1 ≤ many) : madeV (fldBase al big xs kn) [many, xs.getD kn 0] [sizeF al xs, sgnF big] = fldV al big xs (kn : Int) many := by
 cases h : viewB (fldBase al big xs kn) [many, xs.getD kn 0] [sizeF al xs, sgnF big] with
 | true => rw [fldB_y hf hk hm h]; unfold madeV; rw [h]; rfl
 | false => rw [fldB_v h]; unfold madeV; rw [h]; rfl
theorem made_e {B : Int} {u v : Value} {s t : List Int} {w : World} {l1 m1 : Nat} {X : VBool} (he : madeV B s t = X) (h1 : Ints w l1 u s) (k1 : Ints w m1 v t) : Calls Try.prog 59 #[.agg #[.int .i64 B, u, v]] w (PVB w X) := by subst he; exact made_c B u v s t w l1 m1 h1 k1
theorem places_e {xs : List Int} {u : Value} {big al : Bool} {w : World} {lo : Nat} {N : Int} (hN : sizeF al xs = N) (h1 : Ints w lo u xs) (hf : fmtB xs = true) :
  Calls Try.prog 58 #[.agg #[u, .bool big, .bool al]] w (PPlc w (plcF al xs).1 N) := by subst hN; exact specPlaces_c xs u big al w lo h1 hf
theorem fldB_M {al big : Bool} {xs : List Int} {k many : Int} (h : inB 1 60 many = false) : fldV al big xs k many = noV := by
 cases hb : fldB al big xs k many with
 | false => exact fldV_no hb
 | true =>
  obtain ⟨g1, g2, g3, g4⟩ := fldB_in hb
  have h7 := (shapeB_in (viewB_in g4).1).2.1 many (by simp)
  unfold inB at h
  have := of_decide_eq_false h
  omega
theorem fldB_K {al big : Bool} {xs : List Int} {k many : Int} (h : inB 0 ((xs.length : Int) - 1) k = false) : fldV al big xs k many = noV := fldB_k (by
 unfold inB at h
 have := of_decide_eq_false h
 omega)
set_option maxHeartbeats 12800000 in
theorem specFieldView_c (xs : List Int) (u : Value) (big al : Bool) (k many : Int) (w : World) (lo : Nat) (h1 : Ints w lo u xs) :
  Calls Try.prog 20 #[.agg #[u, .bool big, .bool al], .int .i64 k, .int .i64 many] w (PVX w (fldV al big xs k many)) := by
 have hl9 := h1.len
 obtain ⟨p0, cq0, rfl⟩ := h1.form
 go_enter Try.func20, Try.ntmps20
 go_wp2_with fail
 refine (validFormat_c xs _ big al _ _ (h1.ext qXt)).mono ?_
 rintro e w1 ⟨rfl, xw1⟩
 have Lw1 : Ext w w1 := Ext.trans qXt xw1
 have Xw1 : Ext w w1 := Lw1
 have f0 : w1.cell? ⟨w.heap.size, 0, none⟩ = some (.slice p0 xs.length cq0) := xw1.cell qCl
 have f1 : w1.cell? ⟨w.heap.size, 1, none⟩ = some (.bool big) := xw1.cell qCl
 have f2 : w1.cell? ⟨w.heap.size, 2, none⟩ = some (.bool al) := xw1.cell qCl
 have q0 : w1.cell? ⟨w.heap.size + 1, 0, none⟩ = some (.int .i64 0) := xw1.cell qCl
 have q1 : w1.cell? ⟨w.heap.size + 1, 1, none⟩ = some (.slice none 0 0) := xw1.cell qCl
 have q2 : w1.cell? ⟨w.heap.size + 1, 2, none⟩ = some (.slice none 0 0) := xw1.cell qCl
 have f_q0 : w1.frozen? ⟨w.heap.size + 1, 0, none⟩ = false := xw1.frz (by simp <;> omega) qFz
 have f_q1 : w1.frozen? ⟨w.heap.size + 1, 1, none⟩ = false := xw1.frz (by simp <;> omega) qFz
 have f_q2 : w1.frozen? ⟨w.heap.size + 1, 2, none⟩ = false := xw1.frz (by simp <;> omega) qFz
 have z_f : w.heap.size < w1.heap.size := qB f0
 have z_q : w.heap.size + 1 < w1.heap.size := qB q0
 have s_w1 : w.heap.size ≤ w1.heap.size := Xw1.size
 clear xw1
 cases hf : fmtB xs
 ·
  replace hf := Lib.hid hf
  go_wp2_with fail
  generalize hW1 : (((w1.setCell ⟨w.heap.size + 1, 0, none⟩ (.int .i64 0)).setCell ⟨w.heap.size + 1, 1, none⟩ (.slice none 0 0)).setCell ⟨w.heap.size + 1, 2, none⟩ (.slice none 0 0)) = w2 at *
  have Kw2 : Chg (w.heap.size + 1) (w.heap.size + 1 + 1) w1 w2 := by subst hW1; exact qCh
  have Xw2 : Ext w w2 := by subst hW1; exact qXt
  replace f0 := Kw2.cell (by omega) f0
  replace f1 := Kw2.cell (by omega) f1
  replace f2 := Kw2.cell (by omega) f2
  replace q0 : w2.cell? ⟨w.heap.size + 1, 0, none⟩ = some (.int .i64 0) := by subst hW1; go_simp
  replace f_q0 : w2.frozen? ⟨w.heap.size + 1, 0, none⟩ = false := by subst hW1; first | (simp only [World.frozen?_setCell]; with_reducible assumption) | go_simp
  replace q1 : w2.cell? ⟨w.heap.size + 1, 1, none⟩ = some (.slice none 0 0) := by subst hW1; go_simp
  replace f_q1 : w2.frozen? ⟨w.heap.size + 1, 1, none⟩ = false := by subst hW1; first | (simp only [World.frozen?_setCell]; with_reducible assumption) | go_simp
  replace q2 : w2.cell? ⟨w.heap.size + 1, 2, none⟩ = some (.slice none 0 0) := by subst hW1; go_simp
  replace f_q2 : w2.frozen? ⟨w.heap.size + 1, 2, none⟩ = false := by subst hW1; first | (simp only [World.frozen?_setCell]; with_reducible assumption) | go_simp
  clear Kw2
  have z_f : w.heap.size < w2.heap.size := qB f0
  have z_q : w.heap.size + 1 < w2.heap.size := qB q0
  have s_w2 : w.heap.size ≤ w2.heap.size := Xw2.size
  clear hW1
  refine bodyPost_ret (v := .tuple #[.agg #[.int .i64 0, .slice none 0 0, .slice none 0 0], .bool false]) (by simp only [results, Try.results20]; go_simp) rfl ?_
  exact PVX.no (fldB_f hf.out) Xw2
 ·
  replace hf := Lib.hid hf
  go_wp2_with fail
  refine (inRange_c k 0 ((xs.length : Int) - 1) _).mono ?_
  rintro e w' ⟨rfl, rfl⟩
  cases hk9 : inB 0 ((xs.length : Int) - 1) k
  ·
   replace hk9 := Lib.hid hk9
   go_wp2_with fail
   generalize hW2 : (((w1.setCell ⟨w.heap.size + 1, 0, none⟩ (.int .i64 0)).setCell ⟨w.heap.size + 1, 1, none⟩ (.slice none 0 0)).setCell ⟨w.heap.size + 1, 2, none⟩ (.slice none 0 0)) = w2 at *
   have Kw2 : Chg (w.heap.size + 1) (w.heap.size + 1 + 1) w1 w2 := by subst hW2; exact qCh
   have Xw2 : Ext w w2 := by subst hW2; exact qXt
   replace f0 := Kw2.cell (by omega) f0
   replace f1 := Kw2.cell (by omega) f1
   replace f2 := Kw2.cell (by omega) f2
   replace q0 : w2.cell? ⟨w.heap.size + 1, 0, none⟩ = some (.int .i64 0) := by subst hW2; go_simp
   replace f_q0 : w2.frozen? ⟨w.heap.size + 1, 0, none⟩ = false := by subst hW2; first | (simp only [World.frozen?_setCell]; with_reducible assumption) | go_simp
   replace q1 : w2.cell? ⟨w.heap.size + 1, 1, none⟩ = some (.slice none 0 0) := by subst hW2; go_simp
   replace f_q1 : w2.frozen? ⟨w.heap.size + 1, 1, none⟩ = false := by subst hW2; first | (simp only [World.frozen?_setCell]; with_reducible assumption) | go_simp
   replace q2 : w2.cell? ⟨w.heap.size + 1, 2, none⟩ = some (.slice none 0 0) := by subst hW2; go_simp
   replace f_q2 : w2.frozen? ⟨w.heap.size + 1, 2, none⟩ = false := by subst hW2; first | (simp only [World.frozen?_setCell]; with_reducible assumption) | go_simp
   clear Kw2
   have z_f : w.heap.size < w2.heap.size := qB f0
   have z_q : w.heap.size + 1 < w2.heap.size := qB q0
   have s_w2 : w.heap.size ≤ w2.heap.size := Xw2.size
   clear hW2
   refine bodyPost_ret (v := .tuple #[.agg #[.int .i64 0, .slice none 0 0, .slice none 0 0], .bool false]) (by simp only [results, Try.results20]; go_simp) rfl ?_
   exact PVX.no (fldB_K hk9.out) Xw2
  ·
   have hkk : 0 ≤ k ∧ k < xs.length := by unfold inB at hk9; have := of_decide_eq_true hk9; omega
   replace hk9 := Lib.hid hk9
   go_wp2_with fail
   refine (inRange_c many 1 60 _).mono ?_
   rintro e w' ⟨rfl, rfl⟩
   cases hm9 : inB 1 60 many
   ·
    replace hm9 := Lib.hid hm9
    go_wp2_with fail
    generalize hW3 : (((w1.setCell ⟨w.heap.size + 1, 0, none⟩ (.int .i64 0)).setCell ⟨w.heap.size + 1, 1, none⟩ (.slice none 0 0)).setCell ⟨w.heap.size + 1, 2, none⟩ (.slice none 0 0)) = w2 at *
    have Kw2 : Chg (w.heap.size + 1) (w.heap.size + 1 + 1) w1 w2 := by subst hW3; exact qCh
    have Xw2 : Ext w w2 := by subst hW3; exact qXt
    replace f0 := Kw2.cell (by omega) f0
    replace f1 := Kw2.cell (by omega) f1
    replace f2 := Kw2.cell (by omega) f2
    replace q0 : w2.cell? ⟨w.heap.size + 1, 0, none⟩ = some (.int .i64 0) := by subst hW3; go_simp
    replace f_q0 : w2.frozen? ⟨w.heap.size + 1, 0, none⟩ = false := by subst hW3; first | (simp only [World.frozen?_setCell]; with_reducible assumption) | go_simp
    replace q1 : w2.cell? ⟨w.heap.size + 1, 1, none⟩ = some (.slice none 0 0) := by subst hW3; go_simp
    replace f_q1 : w2.frozen? ⟨w.heap.size + 1, 1, none⟩ = false := by subst hW3; first | (simp only [World.frozen?_setCell]; with_reducible assumption) | go_simp
    replace q2 : w2.cell? ⟨w.heap.size + 1, 2, none⟩ = some (.slice none 0 0) := by subst hW3; go_simp
    replace f_q2 : w2.frozen? ⟨w.heap.size + 1, 2, none⟩ = false := by subst hW3; first | (simp only [World.frozen?_setCell]; with_reducible assumption) | go_simp
    clear Kw2
    have z_f : w.heap.size < w2.heap.size := qB f0
    have z_q : w.heap.size + 1 < w2.heap.size := qB q0
    have s_w2 : w.heap.size ≤ w2.heap.size := Xw2.size
    clear hW3
    refine bodyPost_ret (v := .tuple #[.agg #[.int .i64 0, .slice none 0 0, .slice none 0 0], .bool false]) (by simp only [results, Try.results20]; go_simp) rfl ?_
    exact PVX.no (fldB_M hm9.out) Xw2
   ·
    have hmm : 1 ≤ many ∧ many ≤ 60 := by unfold inB at hm9; exact of_decide_eq_true hm9
    replace hm9 := Lib.hid hm9
    replace hk9 := hm9
    obtain ⟨kn, rfl⟩ : ∃ q : Nat, k = (q : Int) := ⟨k.toNat, by omega⟩
    have hkn : kn < xs.length := by omega
    have hkI : (kn : Int) < (xs.length : Int) := by omega
    have hk0 : ¬ (kn : Int) < 0 := by omega
    have hkl : ¬ (xs.length : Int) ≤ (kn : Int) := by omega
    have hx9 := fmtB_in hf.out
    have hpl := (plcF_bd al hx9.1 xs.length (Nat.le_refl _)).1
    rw [List.take_length] at hpl
    have hpn : (plcF al xs).1 ≠ [] := by intro h; rw [h] at hpl; simp at hpl; omega
    have hkP : kn < ((plcF al xs).1).length := by omega
    have hkPI : (kn : Int) < (((plcF al xs).1).length : Int) := by omega
    have hfi := field_in al hx9.1 hx9.2.2 hkn
    have hsz := hx9.1 _ (getD_mem hkn)
    obtain ⟨v, hv⟩ : ∃ v, xs.getD kn 0 = v := ⟨_, rfl⟩
    obtain ⟨p, hp⟩ : ∃ p, (plcF al xs).1.getD kn 0 = p := ⟨_, rfl⟩
    obtain ⟨N, hN⟩ : ∃ N, sizeF al xs = N := ⟨_, rfl⟩
    rw [hv, hp, hN] at hfi
    rw [hv] at hsz
    replace hv := Lib.hid hv
    replace hp := Lib.hid hp
    replace hN := Lib.hid hN
    clear hx9
    obtain ⟨bl, ol, rfl, e0w⟩ := h1.at kn hkn
    rw [hv.out] at e0w
    have y_e : bl < w.heap.size := qB e0w
    have e0 := Xw1.cell e0w
    have z_e : bl < w1.heap.size := qB e0
    clear e0w
    go_wp2_with fail
    refine (places_e hN.out (h1.ext (Xw1.trans qXt)) hf.out).mono ?_
    rintro e w2 ⟨pv, rfl, iP, -, xw2⟩
    have Lw2 : Ext w1 w2 := Ext.trans qXt xw2
    have Xw2 : Ext w w2 := Xw1.trans Lw2
    replace f0 := Lw2.cell f0
    replace f1 := Lw2.cell f1
    replace f2 := Lw2.cell f2
    replace q0 := Lw2.cell q0
    replace q1 := Lw2.cell q1
    replace q2 := Lw2.cell q2
    replace f_q0 := Lw2.frz z_q f_q0
    replace f_q1 := Lw2.frz z_q f_q1
    replace f_q2 := Lw2.frz z_q f_q2
    replace e0 := Lw2.cell e0
    have z_f : w.heap.size < w2.heap.size := qB f0
    have z_q : w.heap.size + 1 < w2.heap.size := qB q0
    have z_e : bl < w2.heap.size := qB e0
    have s_w2 : w.heap.size ≤ w2.heap.size := Xw2.size
    clear xw2
    obtain ⟨p5, c5, rfl⟩ := iP.form
    obtain ⟨bp, op, rfl, pl0⟩ := iP.at kn hkP
    rw [hp.out] at pl0
    clear iP
    have z_pl : bp < w2.heap.size := qB pl0
    go_wp2_with fail
    go_cut [10] (fun s10 wx => ∃ (ga gb gc : Nat), s10 = .pointer (some ⟨gc, 0, none⟩) ∧ Ext w2 wx ∧ Row2 w2 wx ga many v ∧ Row2 w2 wx gb N 1 ∧ Box3 w2 wx gc (.int .i64 p) (.slice (some ⟨ga, 0, none⟩) 2 2) (.slice (some ⟨gb, 0, none⟩) 2 2) ∧ ga ≠ gb ∧ ga ≠ gc ∧ gb ≠ gc)
    case first =>
     have XR : Ext w2 w2 := Ext.refl _
     refine wp_region_held_drew (S := fun w' => w'.cell? ⟨w.heap.size, 0, none⟩ = some (.slice (some ⟨bl, ol, none⟩) xs.length cq0) ∧ w'.cell? ⟨bl, ol + kn, none⟩ = some (.int .i64 v) ∧ w'.cell? ⟨bp, op + kn, none⟩ = some (.int .i64 p)) qKr ⟨f0, e0, pl0⟩ (fun hHeld => ?_)
     refine qHk (v := ?_) 0 rfl (.inl ⟨by rfl, ?_⟩) ?_
     rotate_left
     ·
      (intro w hSw; (try dsimp only at hSw); go_simp; try with_reducible rfl)
     try simp only [Act.put, qa, qb, qc, qD, qE, qF]
     refine qHk (v := ?_) 1 rfl (.inl ⟨by rfl, ?_⟩) ?_
     rotate_left
     ·
      (intro w hSw; (try dsimp only at hSw); go_simp; try with_reducible rfl)
     try simp only [Act.put, qa, qb, qc, qD, qE, qF]
     refine qHk (v := ?_) 2 rfl (.inl ⟨by rfl, ?_⟩) ?_
     rotate_left
     ·
      (intro w hSw; (try dsimp only at hSw); go_simp; try with_reducible rfl)
     try simp only [Act.put, qa, qb, qc, qD, qE, qF]
     refine qHk (v := ?_) 3 rfl (.inl ⟨by rfl, ?_⟩) ?_
     rotate_left
     ·
      (intro w hSw; (try dsimp only at hSw); go_simp; try with_reducible rfl)
     try simp only [Act.put, qa, qb, qc, qD, qE, qF]
     refine qHk (v := ?_) 4 rfl (.inl ⟨by rfl, ?_⟩) ?_
     rotate_left
     ·
      (intro w hSw; (try dsimp only at hSw); go_simp; try with_reducible rfl)
     try simp only [Act.put, qa, qb, qc, qD, qE, qF]
     refine qHk (v := ?_) 5 rfl (.inl ⟨by rfl, ?_⟩) ?_
     rotate_left
     ·
      (intro w hSw; (try dsimp only at hSw); go_simp; try with_reducible rfl)
     try simp only [Act.put, qa, qb, qc, qD, qE, qF]
     refine qHk (v := ?_) 6 rfl (.inl ⟨by rfl, ?_⟩) ?_
     rotate_left
     ·
      (intro w hSw; (try dsimp only at hSw); go_simp; try with_reducible rfl)
     try simp only [Act.put, qa, qb, qc, qD, qE, qF]
     refine qHk (v := ?_) 7 rfl (.inl ⟨by rfl, ?_⟩) ?_
     rotate_left
     ·
      (intro w hSw; (try dsimp only at hSw); go_simp; try with_reducible rfl)
     try simp only [Act.put, qa, qb, qc, qD, qE, qF]
     refine qHk (v := ?_) 8 rfl (.inl ⟨by rfl, ?_⟩) ?_
     rotate_left
     ·
      (intro w hSw; (try dsimp only at hSw); go_simp; try with_reducible rfl)
     try simp only [Act.put, qa, qb, qc, qD, qE, qF]
     refine qHk (v := ?_) 9 rfl (.inl ⟨by rfl, ?_⟩) ?_
     rotate_left
     ·
      (intro w hSw; (try dsimp only at hSw); go_simp; try with_reducible rfl)
     try simp only [Act.put, qa, qb, qc, qD, qE, qF]
     refine qHk (v := ?_) 11 rfl (.inl ⟨by rfl, ?_⟩) ?_
     rotate_left
     ·
      (intro w hSw; (try dsimp only at hSw); go_simp; try with_reducible rfl)
     try simp only [Act.put, qa, qb, qc, qD, qE, qF]
     refine wpAnyH_ready (rs := [10, 12, 14]) qKr (by simp) ?_
     refine AllReadyH.cons rfl (fun K hK => ?_) (AllReadyH.cons rfl (fun K hK => ?_) (AllReadyH.cons rfl (fun K hK => ?_) AllReadyH.nil))
     ·
      try simp only [Act.put, qa, qb, qc, qD, qE, qF]
      go_simp
      have EA : Ext w2 (w2.drew.alloc (.cells #[.int .i64 many, .int .i64 v] 3)) := ((Ext.refl _).drew).alloc _
      have ra := Row2.newD XR many v
      replace XR := XR.trans EA
      refine hK.out _ (w2.drew.alloc (.cells #[.int .i64 many, .int .i64 v] 3)) ⟨(XR.cell f0), (XR.cell e0), (XR.cell pl0)⟩ (fun hHeld => ?_)
      clear hK K EA
      try simp only [Act.put, qa, qb, qc, qD, qE, qF]
      generalize (w2.drew.alloc (.cells #[.int .i64 many, .int .i64 v] 3)) = va_1 at *
      refine wpAnyH_ready (rs := [12, 14]) qKr (by simp) ?_
      refine AllReadyH.cons rfl (fun K hK => ?_) (AllReadyH.cons rfl (fun K hK => ?_) AllReadyH.nil)
      ·
       try simp only [Act.put, qa, qb, qc, qD, qE, qF]
       go_simp
       have EA : Ext va_1 (va_1.alloc (.cells #[.int .i64 N, .int .i64 1] 3)) := (Ext.refl _).alloc _
       have o_a_b := ra.lt
       have rb := Row2.new XR N 1
       replace ra := ra.ext EA
       replace XR := XR.trans EA
       refine hK.out _ (va_1.alloc (.cells #[.int .i64 N, .int .i64 1] 3)) ⟨(XR.cell f0), (XR.cell e0), (XR.cell pl0)⟩ (fun hHeld => ?_)
       clear hK K EA
       try simp only [Act.put, qa, qb, qc, qD, qE, qF]
       generalize (va_1.alloc (.cells #[.int .i64 N, .int .i64 1] 3)) = vaa_2 at *
       refine qHk (v := ?_) 13 rfl (.inl ⟨by rfl, ?_⟩) ?_
       rotate_left
       ·
        (intro w hSw; (try dsimp only at hSw); go_simp; try with_reducible rfl)
       try simp only [Act.put, qa, qb, qc, qD, qE, qF]
       refine qHr 14 rfl (fun K hK => ?_)
       try simp only [Act.put, qa, qb, qc, qD, qE, qF]
       go_simp
       have EA : Ext vaa_2 (vaa_2.alloc (.cells #[.int .i64 0, .slice none 0 0, .slice none 0 0] 25)) := (Ext.refl _).alloc _
       have o_a_c := ra.lt
       have o_b_c := rb.lt
       have rc := Box3.new XR
       replace ra := ra.ext EA
       replace rb := rb.ext EA
       replace XR := XR.trans EA
       refine hK.out _ (vaa_2.alloc (.cells #[.int .i64 0, .slice none 0 0, .slice none 0 0] 25)) ⟨(XR.cell f0), (XR.cell e0), (XR.cell pl0)⟩ (fun hHeld => ?_)
       clear hK K EA
       try simp only [Act.put, qa, qb, qc, qD, qE, qF]
       generalize (vaa_2.alloc (.cells #[.int .i64 0, .slice none 0 0, .slice none 0 0] 25)) = vaa_3 at *
       refine qHr 15 rfl (fun K hK => ?_)
       have KS := Chg.three (lo := vaa_2.heap.size) vaa_3 (.int .i64 p) (.slice (some ⟨w2.heap.size, 0, none⟩) 2 2) (.slice (some ⟨va_1.heap.size, 0, none⟩) 2 2)
       have hc := rc
       obtain ⟨-, y0, y1, y2, z0, z1, z2⟩ := rc
       try simp only [Act.put, qa, qb, qc, qD, qE, qF]
       go_simp
       clear y0 y1 y2 z0 z1 z2
       replace ra := ra.chg KS (by omega)
       replace rb := rb.chg KS (by omega)
       have rc := Box3.set hc (.int .i64 p) (.slice (some ⟨w2.heap.size, 0, none⟩) 2 2) (.slice (some ⟨va_1.heap.size, 0, none⟩) 2 2)
       replace XR := Ext.chg XR KS hc.ge
       clear hc
       have EA := KS
       clear KS
       refine hK.out _ _ ⟨(XR.cell f0), (XR.cell e0), (XR.cell pl0)⟩ (fun hHeld => ?_)
       clear hK K EA
       try simp only [Act.put, qa, qb, qc, qD, qE, qF]
       refine wpAnyH_done qKr ?_ _
       clear hHeld
       go_step
       go_step
       go_meet
       case rel => exact ⟨_, _, _, rfl, XR, ra, rb, rc, by omega, by omega, by omega⟩
      ·
       try simp only [Act.put, qa, qb, qc, qD, qE, qF]
       go_simp
       have EA : Ext va_1 (va_1.alloc (.cells #[.int .i64 0, .slice none 0 0, .slice none 0 0] 25)) := (Ext.refl _).alloc _
       have o_a_c := ra.lt
       have rc := Box3.new XR
       replace ra := ra.ext EA
       replace XR := XR.trans EA
       refine hK.out _ (va_1.alloc (.cells #[.int .i64 0, .slice none 0 0, .slice none 0 0] 25)) ⟨(XR.cell f0), (XR.cell e0), (XR.cell pl0)⟩ (fun hHeld => ?_)
       clear hK K EA
       try simp only [Act.put, qa, qb, qc, qD, qE, qF]
       generalize (va_1.alloc (.cells #[.int .i64 0, .slice none 0 0, .slice none 0 0] 25)) = vab_2 at *
       refine qHr 12 rfl (fun K hK => ?_)
       try simp only [Act.put, qa, qb, qc, qD, qE, qF]
       go_simp
       have EA : Ext vab_2 (vab_2.alloc (.cells #[.int .i64 N, .int .i64 1] 3)) := (Ext.refl _).alloc _
       have o_a_b := ra.lt
       have o_c_b := rc.lt
       have rb := Row2.new XR N 1
       replace ra := ra.ext EA
       replace rc := rc.ext EA
       replace XR := XR.trans EA
       refine hK.out _ (vab_2.alloc (.cells #[.int .i64 N, .int .i64 1] 3)) ⟨(XR.cell f0), (XR.cell e0), (XR.cell pl0)⟩ (fun hHeld => ?_)
       clear hK K EA
       try simp only [Act.put, qa, qb, qc, qD, qE, qF]
       generalize (vab_2.alloc (.cells #[.int .i64 N, .int .i64 1] 3)) = vab_3 at *
       refine qHk (v := ?_) 13 rfl (.inl ⟨by rfl, ?_⟩) ?_
       rotate_left
       ·
        (intro w hSw; (try dsimp only at hSw); go_simp; try with_reducible rfl)
       try simp only [Act.put, qa, qb, qc, qD, qE, qF]
       refine qHr 15 rfl (fun K hK => ?_)
       have KS := Chg.three (lo := va_1.heap.size) vab_3 (.int .i64 p) (.slice (some ⟨w2.heap.size, 0, none⟩) 2 2) (.slice (some ⟨vab_2.heap.size, 0, none⟩) 2 2)
       have hc := rc
       obtain ⟨-, y0, y1, y2, z0, z1, z2⟩ := rc
       try simp only [Act.put, qa, qb, qc, qD, qE, qF]
       go_simp
       clear y0 y1 y2 z0 z1 z2
       replace ra := ra.chg KS (by omega)
       replace rb := rb.chg KS (by omega)
       have rc := Box3.set hc (.int .i64 p) (.slice (some ⟨w2.heap.size, 0, none⟩) 2 2) (.slice (some ⟨vab_2.heap.size, 0, none⟩) 2 2)
       replace XR := Ext.chg XR KS hc.ge
       clear hc
       have EA := KS
       clear KS
       refine hK.out _ _ ⟨(XR.cell f0), (XR.cell e0), (XR.cell pl0)⟩ (fun hHeld => ?_)
       clear hK K EA
       try simp only [Act.put, qa, qb, qc, qD, qE, qF]
       refine wpAnyH_done qKr ?_ _
       clear hHeld
       go_step
       go_step
       go_meet
       case rel => exact ⟨_, _, _, rfl, XR, ra, rb, rc, by omega, by omega, by omega⟩
     ·
      try simp only [Act.put, qa, qb, qc, qD, qE, qF]
      go_simp
      have EA : Ext w2 (w2.drew.alloc (.cells #[.int .i64 N, .int .i64 1] 3)) := ((Ext.refl _).drew).alloc _
      have rb := Row2.newD XR N 1
      replace XR := XR.trans EA
      refine hK.out _ (w2.drew.alloc (.cells #[.int .i64 N, .int .i64 1] 3)) ⟨(XR.cell f0), (XR.cell e0), (XR.cell pl0)⟩ (fun hHeld => ?_)
      clear hK K EA
      try simp only [Act.put, qa, qb, qc, qD, qE, qF]
      generalize (w2.drew.alloc (.cells #[.int .i64 N, .int .i64 1] 3)) = vb_1 at *
      refine wpAnyH_ready (rs := [10, 14]) qKr (by simp) ?_
      refine AllReadyH.cons rfl (fun K hK => ?_) (AllReadyH.cons rfl (fun K hK => ?_) AllReadyH.nil)
      ·
       try simp only [Act.put, qa, qb, qc, qD, qE, qF]
       go_simp
       have EA : Ext vb_1 (vb_1.alloc (.cells #[.int .i64 many, .int .i64 v] 3)) := (Ext.refl _).alloc _
       have o_b_a := rb.lt
       have ra := Row2.new XR many v
       replace rb := rb.ext EA
       replace XR := XR.trans EA
       refine hK.out _ (vb_1.alloc (.cells #[.int .i64 many, .int .i64 v] 3)) ⟨(XR.cell f0), (XR.cell e0), (XR.cell pl0)⟩ (fun hHeld => ?_)
       clear hK K EA
       try simp only [Act.put, qa, qb, qc, qD, qE, qF]
       generalize (vb_1.alloc (.cells #[.int .i64 many, .int .i64 v] 3)) = vba_2 at *
       refine qHk (v := ?_) 13 rfl (.inl ⟨by rfl, ?_⟩) ?_
       rotate_left
       ·
        (intro w hSw; (try dsimp only at hSw); go_simp; try with_reducible rfl)
       try simp only [Act.put, qa, qb, qc, qD, qE, qF]
       refine qHr 14 rfl (fun K hK => ?_)
       try simp only [Act.put, qa, qb, qc, qD, qE, qF]
       go_simp
       have EA : Ext vba_2 (vba_2.alloc (.cells #[.int .i64 0, .slice none 0 0, .slice none 0 0] 25)) := (Ext.refl _).alloc _
       have o_b_c := rb.lt
       have o_a_c := ra.lt
       have rc := Box3.new XR
       replace rb := rb.ext EA
       replace ra := ra.ext EA
       replace XR := XR.trans EA
       refine hK.out _ (vba_2.alloc (.cells #[.int .i64 0, .slice none 0 0, .slice none 0 0] 25)) ⟨(XR.cell f0), (XR.cell e0), (XR.cell pl0)⟩ (fun hHeld => ?_)
       clear hK K EA
       try simp only [Act.put, qa, qb, qc, qD, qE, qF]
       generalize (vba_2.alloc (.cells #[.int .i64 0, .slice none 0 0, .slice none 0 0] 25)) = vba_3 at *
       refine qHr 15 rfl (fun K hK => ?_)
       have KS := Chg.three (lo := vba_2.heap.size) vba_3 (.int .i64 p) (.slice (some ⟨vb_1.heap.size, 0, none⟩) 2 2) (.slice (some ⟨w2.heap.size, 0, none⟩) 2 2)
       have hc := rc
       obtain ⟨-, y0, y1, y2, z0, z1, z2⟩ := rc
       try simp only [Act.put, qa, qb, qc, qD, qE, qF]
       go_simp
       clear y0 y1 y2 z0 z1 z2
       replace ra := ra.chg KS (by omega)
       replace rb := rb.chg KS (by omega)
       have rc := Box3.set hc (.int .i64 p) (.slice (some ⟨vb_1.heap.size, 0, none⟩) 2 2) (.slice (some ⟨w2.heap.size, 0, none⟩) 2 2)
       replace XR := Ext.chg XR KS hc.ge
       clear hc
       have EA := KS
       clear KS
       refine hK.out _ _ ⟨(XR.cell f0), (XR.cell e0), (XR.cell pl0)⟩ (fun hHeld => ?_)
       clear hK K EA
       try simp only [Act.put, qa, qb, qc, qD, qE, qF]
       refine wpAnyH_done qKr ?_ _
       clear hHeld
       go_step
       go_step
       go_meet
       case rel => exact ⟨_, _, _, rfl, XR, ra, rb, rc, by omega, by omega, by omega⟩
      ·
       try simp only [Act.put, qa, qb, qc, qD, qE, qF]
       go_simp
       have EA : Ext vb_1 (vb_1.alloc (.cells #[.int .i64 0, .slice none 0 0, .slice none 0 0] 25)) := (Ext.refl _).alloc _
       have o_b_c := rb.lt
       have rc := Box3.new XR
       replace rb := rb.ext EA
       replace XR := XR.trans EA
       refine hK.out _ (vb_1.alloc (.cells #[.int .i64 0, .slice none 0 0, .slice none 0 0] 25)) ⟨(XR.cell f0), (XR.cell e0), (XR.cell pl0)⟩ (fun hHeld => ?_)
       clear hK K EA
       try simp only [Act.put, qa, qb, qc, qD, qE, qF]
       generalize (vb_1.alloc (.cells #[.int .i64 0, .slice none 0 0, .slice none 0 0] 25)) = vbb_2 at *
       refine qHr 10 rfl (fun K hK => ?_)
       try simp only [Act.put, qa, qb, qc, qD, qE, qF]
       go_simp
       have EA : Ext vbb_2 (vbb_2.alloc (.cells #[.int .i64 many, .int .i64 v] 3)) := (Ext.refl _).alloc _
       have o_b_a := rb.lt
       have o_c_a := rc.lt
       have ra := Row2.new XR many v
       replace rb := rb.ext EA
       replace rc := rc.ext EA
       replace XR := XR.trans EA
       refine hK.out _ (vbb_2.alloc (.cells #[.int .i64 many, .int .i64 v] 3)) ⟨(XR.cell f0), (XR.cell e0), (XR.cell pl0)⟩ (fun hHeld => ?_)
       clear hK K EA
       try simp only [Act.put, qa, qb, qc, qD, qE, qF]
       generalize (vbb_2.alloc (.cells #[.int .i64 many, .int .i64 v] 3)) = vbb_3 at *
       refine qHk (v := ?_) 13 rfl (.inl ⟨by rfl, ?_⟩) ?_
       rotate_left
       ·
        (intro w hSw; (try dsimp only at hSw); go_simp; try with_reducible rfl)
       try simp only [Act.put, qa, qb, qc, qD, qE, qF]
       refine qHr 15 rfl (fun K hK => ?_)
       have KS := Chg.three (lo := vb_1.heap.size) vbb_3 (.int .i64 p) (.slice (some ⟨vbb_2.heap.size, 0, none⟩) 2 2) (.slice (some ⟨w2.heap.size, 0, none⟩) 2 2)
       have hc := rc
       obtain ⟨-, y0, y1, y2, z0, z1, z2⟩ := rc
       try simp only [Act.put, qa, qb, qc, qD, qE, qF]
       go_simp
       clear y0 y1 y2 z0 z1 z2
       replace ra := ra.chg KS (by omega)
       replace rb := rb.chg KS (by omega)
       have rc := Box3.set hc (.int .i64 p) (.slice (some ⟨vbb_2.heap.size, 0, none⟩) 2 2) (.slice (some ⟨w2.heap.size, 0, none⟩) 2 2)
       replace XR := Ext.chg XR KS hc.ge
       clear hc
       have EA := KS
       clear KS
       refine hK.out _ _ ⟨(XR.cell f0), (XR.cell e0), (XR.cell pl0)⟩ (fun hHeld => ?_)
       clear hK K EA
       try simp only [Act.put, qa, qb, qc, qD, qE, qF]
       refine wpAnyH_done qKr ?_ _
       clear hHeld
       go_step
       go_step
       go_meet
       case rel => exact ⟨_, _, _, rfl, XR, ra, rb, rc, by omega, by omega, by omega⟩
     ·
      try simp only [Act.put, qa, qb, qc, qD, qE, qF]
      go_simp
      have EA : Ext w2 (w2.drew.alloc (.cells #[.int .i64 0, .slice none 0 0, .slice none 0 0] 25)) := ((Ext.refl _).drew).alloc _
      have rc := Box3.newD XR
      replace XR := XR.trans EA
      refine hK.out _ (w2.drew.alloc (.cells #[.int .i64 0, .slice none 0 0, .slice none 0 0] 25)) ⟨(XR.cell f0), (XR.cell e0), (XR.cell pl0)⟩ (fun hHeld => ?_)
      clear hK K EA
      try simp only [Act.put, qa, qb, qc, qD, qE, qF]
      generalize (w2.drew.alloc (.cells #[.int .i64 0, .slice none 0 0, .slice none 0 0] 25)) = vc_1 at *
      refine wpAnyH_ready (rs := [10, 12]) qKr (by simp) ?_
      refine AllReadyH.cons rfl (fun K hK => ?_) (AllReadyH.cons rfl (fun K hK => ?_) AllReadyH.nil)
      ·
       try simp only [Act.put, qa, qb, qc, qD, qE, qF]
       go_simp
       have EA : Ext vc_1 (vc_1.alloc (.cells #[.int .i64 many, .int .i64 v] 3)) := (Ext.refl _).alloc _
       have o_c_a := rc.lt
       have ra := Row2.new XR many v
       replace rc := rc.ext EA
       replace XR := XR.trans EA
       refine hK.out _ (vc_1.alloc (.cells #[.int .i64 many, .int .i64 v] 3)) ⟨(XR.cell f0), (XR.cell e0), (XR.cell pl0)⟩ (fun hHeld => ?_)
       clear hK K EA
       try simp only [Act.put, qa, qb, qc, qD, qE, qF]
       generalize (vc_1.alloc (.cells #[.int .i64 many, .int .i64 v] 3)) = vca_2 at *
       refine qHr 12 rfl (fun K hK => ?_)
       try simp only [Act.put, qa, qb, qc, qD, qE, qF]
       go_simp
       have EA : Ext vca_2 (vca_2.alloc (.cells #[.int .i64 N, .int .i64 1] 3)) := (Ext.refl _).alloc _
       have o_c_b := rc.lt
       have o_a_b := ra.lt
       have rb := Row2.new XR N 1
       replace rc := rc.ext EA
       replace ra := ra.ext EA
       replace XR := XR.trans EA
       refine hK.out _ (vca_2.alloc (.cells #[.int .i64 N, .int .i64 1] 3)) ⟨(XR.cell f0), (XR.cell e0), (XR.cell pl0)⟩ (fun hHeld => ?_)
       clear hK K EA
       try simp only [Act.put, qa, qb, qc, qD, qE, qF]
       generalize (vca_2.alloc (.cells #[.int .i64 N, .int .i64 1] 3)) = vca_3 at *
       refine qHk (v := ?_) 13 rfl (.inl ⟨by rfl, ?_⟩) ?_
       rotate_left
       ·
        (intro w hSw; (try dsimp only at hSw); go_simp; try with_reducible rfl)
       try simp only [Act.put, qa, qb, qc, qD, qE, qF]
       refine qHr 15 rfl (fun K hK => ?_)
       have KS := Chg.three (lo := w2.heap.size) vca_3 (.int .i64 p) (.slice (some ⟨vc_1.heap.size, 0, none⟩) 2 2) (.slice (some ⟨vca_2.heap.size, 0, none⟩) 2 2)
       have hc := rc
       obtain ⟨-, y0, y1, y2, z0, z1, z2⟩ := rc
       try simp only [Act.put, qa, qb, qc, qD, qE, qF]
       go_simp
       clear y0 y1 y2 z0 z1 z2
       replace ra := ra.chg KS (by omega)
       replace rb := rb.chg KS (by omega)
       have rc := Box3.set hc (.int .i64 p) (.slice (some ⟨vc_1.heap.size, 0, none⟩) 2 2) (.slice (some ⟨vca_2.heap.size, 0, none⟩) 2 2)
       replace XR := Ext.chg XR KS hc.ge
       clear hc
       have EA := KS
       clear KS
       refine hK.out _ _ ⟨(XR.cell f0), (XR.cell e0), (XR.cell pl0)⟩ (fun hHeld => ?_)
       clear hK K EA
       try simp only [Act.put, qa, qb, qc, qD, qE, qF]
       refine wpAnyH_done qKr ?_ _
       clear hHeld
       go_step
       go_step
       go_meet
       case rel => exact ⟨_, _, _, rfl, XR, ra, rb, rc, by omega, by omega, by omega⟩
      ·
       try simp only [Act.put, qa, qb, qc, qD, qE, qF]
       go_simp
       have EA : Ext vc_1 (vc_1.alloc (.cells #[.int .i64 N, .int .i64 1] 3)) := (Ext.refl _).alloc _
       have o_c_b := rc.lt
       have rb := Row2.new XR N 1
       replace rc := rc.ext EA
       replace XR := XR.trans EA
       refine hK.out _ (vc_1.alloc (.cells #[.int .i64 N, .int .i64 1] 3)) ⟨(XR.cell f0), (XR.cell e0), (XR.cell pl0)⟩ (fun hHeld => ?_)
       clear hK K EA
       try simp only [Act.put, qa, qb, qc, qD, qE, qF]
       generalize (vc_1.alloc (.cells #[.int .i64 N, .int .i64 1] 3)) = vcb_2 at *
       refine qHr 10 rfl (fun K hK => ?_)
       try simp only [Act.put, qa, qb, qc, qD, qE, qF]
       go_simp
       have EA : Ext vcb_2 (vcb_2.alloc (.cells #[.int .i64 many, .int .i64 v] 3)) := (Ext.refl _).alloc _
       have o_c_a := rc.lt
       have o_b_a := rb.lt
       have ra := Row2.new XR many v
       replace rc := rc.ext EA
       replace rb := rb.ext EA
       replace XR := XR.trans EA
       refine hK.out _ (vcb_2.alloc (.cells #[.int .i64 many, .int .i64 v] 3)) ⟨(XR.cell f0), (XR.cell e0), (XR.cell pl0)⟩ (fun hHeld => ?_)
       clear hK K EA
       try simp only [Act.put, qa, qb, qc, qD, qE, qF]
       generalize (vcb_2.alloc (.cells #[.int .i64 many, .int .i64 v] 3)) = vcb_3 at *
       refine qHk (v := ?_) 13 rfl (.inl ⟨by rfl, ?_⟩) ?_
       rotate_left
       ·
        (intro w hSw; (try dsimp only at hSw); go_simp; try with_reducible rfl)
       try simp only [Act.put, qa, qb, qc, qD, qE, qF]
       refine qHr 15 rfl (fun K hK => ?_)
       have KS := Chg.three (lo := w2.heap.size) vcb_3 (.int .i64 p) (.slice (some ⟨vcb_2.heap.size, 0, none⟩) 2 2) (.slice (some ⟨vc_1.heap.size, 0, none⟩) 2 2)
       have hc := rc
       obtain ⟨-, y0, y1, y2, z0, z1, z2⟩ := rc
       try simp only [Act.put, qa, qb, qc, qD, qE, qF]
       go_simp
       clear y0 y1 y2 z0 z1 z2
       replace ra := ra.chg KS (by omega)
       replace rb := rb.chg KS (by omega)
       have rc := Box3.set hc (.int .i64 p) (.slice (some ⟨vcb_2.heap.size, 0, none⟩) 2 2) (.slice (some ⟨vc_1.heap.size, 0, none⟩) 2 2)
       replace XR := Ext.chg XR KS hc.ge
       clear hc
       have EA := KS
       clear KS
       refine hK.out _ _ ⟨(XR.cell f0), (XR.cell e0), (XR.cell pl0)⟩ (fun hHeld => ?_)
       clear hK K EA
       try simp only [Act.put, qa, qb, qc, qD, qE, qF]
       refine wpAnyH_done qKr ?_ _
       clear hHeld
       go_step
       go_step
       go_meet
       case rel => exact ⟨_, _, _, rfl, XR, ra, rb, rc, by omega, by omega, by omega⟩
    case rest =>
     generalize wc = wz at hcut ⊢
     obtain ⟨ga, gb, gc, rfl, xx, ⟨g_a, a0, a1, f_a0, f_a1⟩, ⟨g_b, b0, b1, f_b0, f_b1⟩, ⟨g_c, c0, c1, c2, f_c0, f_c1, f_c2⟩, d_ab, d_ac, d_bc⟩ := hcut
     have Lwz : Ext w2 wz := Ext.trans qXt xx
     have Xwz : Ext w wz := Xw2.trans Lwz
     replace f0 := Lwz.cell f0
     replace f1 := Lwz.cell f1
     replace f2 := Lwz.cell f2
     replace q0 := Lwz.cell q0
     replace q1 := Lwz.cell q1
     replace q2 := Lwz.cell q2
     replace f_q0 := Lwz.frz z_q f_q0
     replace f_q1 := Lwz.frz z_q f_q1
     replace f_q2 := Lwz.frz z_q f_q2
     replace e0 := Lwz.cell e0
     replace pl0 := Lwz.cell pl0
     have z_f : w.heap.size < wz.heap.size := qB f0
     have z_q : w.heap.size + 1 < wz.heap.size := qB q0
     have z_e : bl < wz.heap.size := qB e0
     have z_pl : bp < wz.heap.size := qB pl0
     have s_wz : w.heap.size ≤ wz.heap.size := Xwz.size
     clear xx
     have z_a : ga < wz.heap.size := qB a0
     have z_b : gb < wz.heap.size := qB b0
     have z_c : gc < wz.heap.size := qB c0
     cases big
     ·
      clear pl0
      have hB : fldBase al false xs kn = p := by unfold fldBase; rw [hp.out, hv.out]; simp
      have hmd := made_fld (al := al) (big := false) hf.out hkn hmm.1
      rw [hB, hv.out, hN.out] at hmd
      obtain ⟨⟨XB, XS, XT, XO⟩, hX⟩ : ∃ X, fldV al false xs (kn : Int) many = X := ⟨_, rfl⟩
      rw [hX] at hmd
      replace hmd := Lib.hid hmd
      replace hX := Lib.hid hX
      go_wp2_with fail
      refine (made_e (B := p) (s := [many, v]) (t := [N, 1]) hmd.out ((Ints.two a0 a1 f_a0 f_a1).ext qXt) ((Ints.two b0 b1 f_b0 f_b1).ext qXt)).mono ?_
      rintro e w3 ⟨sh, st, rfl, i5, i6, -, -, -, xw3⟩
      have Lw3 : Ext wz w3 := Ext.trans qXt xw3
      have Xw3 : Ext w w3 := Xwz.trans Lw3
      replace f0 := Lw3.cell f0
      replace f1 := Lw3.cell f1
      replace f2 := Lw3.cell f2
      replace q0 := Lw3.cell q0
      replace q1 := Lw3.cell q1
      replace q2 := Lw3.cell q2
      replace f_q0 := Lw3.frz z_q f_q0
      replace f_q1 := Lw3.frz z_q f_q1
      replace f_q2 := Lw3.frz z_q f_q2
      replace e0 := Lw3.cell e0
      replace a0 := Lw3.cell a0
      replace a1 := Lw3.cell a1
      replace f_a0 := Lw3.frz z_a f_a0
      replace f_a1 := Lw3.frz z_a f_a1
      replace b0 := Lw3.cell b0
      replace b1 := Lw3.cell b1
      replace f_b0 := Lw3.frz z_b f_b0
      replace f_b1 := Lw3.frz z_b f_b1
      replace c0 := Lw3.cell c0
      replace c1 := Lw3.cell c1
      replace c2 := Lw3.cell c2
      replace f_c0 := Lw3.frz z_c f_c0
      replace f_c1 := Lw3.frz z_c f_c1
      replace f_c2 := Lw3.frz z_c f_c2
      have z_f : w.heap.size < w3.heap.size := qB f0
      have z_q : w.heap.size + 1 < w3.heap.size := qB q0
      have z_e : bl < w3.heap.size := qB e0
      have z_a : ga < w3.heap.size := qB a0
      have z_b : gb < w3.heap.size := qB b0
      have z_c : gc < w3.heap.size := qB c0
      have s_w3 : w.heap.size ≤ w3.heap.size := Xw3.size
      clear xw3
      dsimp only at i5 i6 ⊢
      obtain ⟨p5, c5, rfl⟩ := i5.form
      obtain ⟨p6, c6, rfl⟩ := i6.form
      go_wp2_with fail
      generalize hW4 : (((w3.setCell ⟨w.heap.size + 1, 0, none⟩ (.int .i64 XB)).setCell ⟨w.heap.size + 1, 1, none⟩ (.slice p5 XS.length c5)).setCell ⟨w.heap.size + 1, 2, none⟩ (.slice p6 XT.length c6)) = w4 at *
      have Kw4 : Chg (w.heap.size + 1) (w.heap.size + 1 + 1) w3 w4 := by subst hW4; exact qCh
      have Xw4 : Ext w w4 := by subst hW4; exact qXt
      replace f0 := Kw4.cell (by omega) f0
      replace f1 := Kw4.cell (by omega) f1
      replace f2 := Kw4.cell (by omega) f2
      replace q0 : w4.cell? ⟨w.heap.size + 1, 0, none⟩ = some (.int .i64 XB) := by subst hW4; go_simp
      replace f_q0 : w4.frozen? ⟨w.heap.size + 1, 0, none⟩ = false := by subst hW4; first | (simp only [World.frozen?_setCell]; with_reducible assumption) | go_simp
      replace q1 : w4.cell? ⟨w.heap.size + 1, 1, none⟩ = some (.slice p5 XS.length c5) := by subst hW4; go_simp
      replace f_q1 : w4.frozen? ⟨w.heap.size + 1, 1, none⟩ = false := by subst hW4; first | (simp only [World.frozen?_setCell]; with_reducible assumption) | go_simp
      replace q2 : w4.cell? ⟨w.heap.size + 1, 2, none⟩ = some (.slice p6 XT.length c6) := by subst hW4; go_simp
      replace f_q2 : w4.frozen? ⟨w.heap.size + 1, 2, none⟩ = false := by subst hW4; first | (simp only [World.frozen?_setCell]; with_reducible assumption) | go_simp
      replace e0 := Kw4.cell (by omega) e0
      replace a0 := Kw4.cell (by omega) a0
      replace f_a0 := Kw4.frzO (by omega) z_a f_a0
      replace a1 := Kw4.cell (by omega) a1
      replace f_a1 := Kw4.frzO (by omega) z_a f_a1
      replace b0 := Kw4.cell (by omega) b0
      replace f_b0 := Kw4.frzO (by omega) z_b f_b0
      replace b1 := Kw4.cell (by omega) b1
      replace f_b1 := Kw4.frzO (by omega) z_b f_b1
      replace c0 := Kw4.cell (by omega) c0
      replace f_c0 := Kw4.frzO (by omega) z_c f_c0
      replace c1 := Kw4.cell (by omega) c1
      replace f_c1 := Kw4.frzO (by omega) z_c f_c1
      replace c2 := Kw4.cell (by omega) c2
      replace f_c2 := Kw4.frzO (by omega) z_c f_c2
      replace i5 := i5.chg Kw4 (by omega)
      replace i6 := i6.chg Kw4 (by omega)
      clear Kw4
      have z_f : w.heap.size < w4.heap.size := qB f0
      have z_q : w.heap.size + 1 < w4.heap.size := qB q0
      have z_e : bl < w4.heap.size := qB e0
      have z_a : ga < w4.heap.size := qB a0
      have z_b : gb < w4.heap.size := qB b0
      have z_c : gc < w4.heap.size := qB c0
      have s_w4 : w.heap.size ≤ w4.heap.size := Xw4.size
      clear hW4
      refine bodyPost_ret (v := .tuple #[.agg #[.int .i64 XB, .slice p5 XS.length c5, .slice p6 XT.length c6], .bool XO]) (by simp only [results, Try.results20]; go_simp) rfl ?_
      rw [hX.out]
      exact ⟨_, _, rfl, i5.lower (by omega), i6.lower (by omega), Xw4⟩
     ·
      go_wp2_with fail
      have hw0 : IntKind.i64.wrap (p + v) = p + v := IntWalk.i64_in _ (by omega)
      have hw1 : IntKind.i64.wrap (p + v - 1) = p + v - 1 := IntWalk.i64_in _ (by omega)
      refine wp_region_tail (S := fun w' => w'.cell? ⟨w.heap.size, 0, none⟩ = some (.slice (some ⟨bl, ol, none⟩) xs.length cq0) ∧ w'.cell? ⟨bl, ol + kn, none⟩ = some (.int .i64 v) ∧ w'.cell? ⟨bp, op + kn, none⟩ = some (.int .i64 p) ∧ w'.cell? ⟨gc, 0, none⟩ = some (.int .i64 p)) (fun i => decide (12 ≤ i)) qKr ⟨f0, e0, pl0, c0⟩ (fun hHeld => ?_)
      refine qTk (v := ?_) 0 rfl (.inl ⟨by rfl, ?_⟩) ?_
      rotate_left
      ·
       (intro w hSw; (try dsimp only at hSw); go_simp; try with_reducible rfl)
      try simp only [Act.put, qa, qb, qc, qD, qE, qF]
      refine qTk (v := ?_) 1 rfl (.inl ⟨by rfl, ?_⟩) ?_
      rotate_left
      ·
       (intro w hSw; (try dsimp only at hSw); go_simp; try with_reducible rfl)
      try simp only [Act.put, qa, qb, qc, qD, qE, qF]
      refine qTk (v := ?_) 2 rfl (.inl ⟨by rfl, ?_⟩) ?_
      rotate_left
      ·
       (intro w hSw; (try dsimp only at hSw); go_simp; try with_reducible rfl)
      try simp only [Act.put, qa, qb, qc, qD, qE, qF]
      refine qTk (v := ?_) 3 rfl (.inl ⟨by rfl, ?_⟩) ?_
      rotate_left
      ·
       (intro w hSw; (try dsimp only at hSw); go_simp; try with_reducible rfl)
      try simp only [Act.put, qa, qb, qc, qD, qE, qF]
      refine qTk (v := ?_) 4 rfl (.inl ⟨by rfl, ?_⟩) ?_
      rotate_left
      ·
       (intro w hSw; (try dsimp only at hSw); go_simp; try with_reducible rfl)
      try simp only [Act.put, qa, qb, qc, qD, qE, qF]
      refine qTk (v := ?_) 5 rfl (.inl ⟨by rfl, ?_⟩) ?_
      rotate_left
      ·
       (intro w hSw; (try dsimp only at hSw); go_simp; try with_reducible rfl)
      try simp only [Act.put, qa, qb, qc, qD, qE, qF]
      refine qTk (v := ?_) 6 rfl (.inl ⟨by rfl, ?_⟩) ?_
      rotate_left
      ·
       (intro w hSw; (try dsimp only at hSw); go_simp; try with_reducible rfl)
      try simp only [Act.put, qa, qb, qc, qD, qE, qF]
      refine qTk (v := ?_) 7 rfl (.inl ⟨by rfl, ?_⟩) ?_
      rotate_left
      ·
       (intro w hSw; (try dsimp only at hSw); go_simp; try with_reducible rfl)
      try simp only [Act.put, qa, qb, qc, qD, qE, qF]
      refine qTk (v := ?_) 8 rfl (.inl ⟨by rfl, ?_⟩) ?_
      rotate_left
      ·
       (intro w hSw; (try dsimp only at hSw); go_simp; try with_reducible rfl)
      try simp only [Act.put, qa, qb, qc, qD, qE, qF]
      refine qTk (v := ?_) 9 rfl (.inl ⟨by rfl, ?_⟩) ?_
      rotate_left
      ·
       (intro w hSw; (try dsimp only at hSw); go_simp; try with_reducible rfl)
      try simp only [Act.put, qa, qb, qc, qD, qE, qF]
      refine qTk (v := ?_) 10 rfl (.inl ⟨by rfl, ?_⟩) ?_
      rotate_left
      ·
       (intro w hSw; (try dsimp only at hSw); go_simp; try with_reducible rfl)
      try simp only [Act.put, qa, qb, qc, qD, qE, qF]
      refine qTk (v := ?_) 11 rfl (.inl ⟨by rfl, ?_⟩) ?_
      rotate_left
      ·
       (intro w hSw; (try dsimp only at hSw); go_simp; try with_reducible rfl)
      try simp only [Act.put, qa, qb, qc, qD, qE, qF]
      refine wpTail_last (i := 12) qKr rfl rfl (fun K hK => ?_)
      try simp only [Act.put, qa, qb, qc, qD, qE, qF]
      go_simp
      refine hK.out _ _ ?_
      clear hK K
      try simp only [Act.put, qa, qb, qc, qD, qE, qF]
      refine wpTail_done qKr ?_ _
      clear hHeld hw0 hw1
      generalize hW5 : ((wz.setCell ⟨gc, 0, none⟩ (.int .i64 (p + v - 1))).drew) = w3 at *
      have Kw3 : Chg (gc) (gc + 1) wz w3 := by subst hW5; exact qCh
      have Xw3 : Ext w w3 := by subst hW5; exact qXt
      replace f0 := Kw3.cell (by omega) f0
      replace f1 := Kw3.cell (by omega) f1
      replace f2 := Kw3.cell (by omega) f2
      replace q0 := Kw3.cell (by omega) q0
      replace f_q0 := Kw3.frzO (by omega) z_q f_q0
      replace q1 := Kw3.cell (by omega) q1
      replace f_q1 := Kw3.frzO (by omega) z_q f_q1
      replace q2 := Kw3.cell (by omega) q2
      replace f_q2 := Kw3.frzO (by omega) z_q f_q2
      replace e0 := Kw3.cell (by omega) e0
      replace pl0 := Kw3.cell (by omega) pl0
      replace a0 := Kw3.cell (by omega) a0
      replace f_a0 := Kw3.frzO (by omega) z_a f_a0
      replace a1 := Kw3.cell (by omega) a1
      replace f_a1 := Kw3.frzO (by omega) z_a f_a1
      replace b0 := Kw3.cell (by omega) b0
      replace f_b0 := Kw3.frzO (by omega) z_b f_b0
      replace b1 := Kw3.cell (by omega) b1
      replace f_b1 := Kw3.frzO (by omega) z_b f_b1
      replace c0 : w3.cell? ⟨gc, 0, none⟩ = some (.int .i64 (p + v - 1)) := by subst hW5; go_simp
      replace f_c0 : w3.frozen? ⟨gc, 0, none⟩ = false := by subst hW5; first | (simp only [World.frozen?_setCell]; with_reducible assumption) | go_simp
      replace c1 : w3.cell? ⟨gc, 1, none⟩ = some (.slice (some ⟨ga, 0, none⟩) 2 2) := by subst hW5; go_simp
      replace f_c1 : w3.frozen? ⟨gc, 1, none⟩ = false := by subst hW5; first | (simp only [World.frozen?_setCell]; with_reducible assumption) | go_simp
      replace c2 : w3.cell? ⟨gc, 2, none⟩ = some (.slice (some ⟨gb, 0, none⟩) 2 2) := by subst hW5; go_simp
      replace f_c2 : w3.frozen? ⟨gc, 2, none⟩ = false := by subst hW5; first | (simp only [World.frozen?_setCell]; with_reducible assumption) | go_simp
      clear Kw3
      have z_f : w.heap.size < w3.heap.size := qB f0
      have z_q : w.heap.size + 1 < w3.heap.size := qB q0
      have z_e : bl < w3.heap.size := qB e0
      have z_pl : bp < w3.heap.size := qB pl0
      have z_a : ga < w3.heap.size := qB a0
      have z_b : gb < w3.heap.size := qB b0
      have z_c : gc < w3.heap.size := qB c0
      have s_w3 : w.heap.size ≤ w3.heap.size := Xw3.size
      clear hW5
      go_wp2_with fail
      generalize hW6 : (w3.setCell ⟨gb, 1, none⟩ (.int .i64 (-1))) = w4 at *
      have Kw4 : Chg (gb) (gb + 1) w3 w4 := by subst hW6; exact qCh
      have Xw4 : Ext w w4 := by subst hW6; exact qXt
      replace f0 := Kw4.cell (by omega) f0
      replace f1 := Kw4.cell (by omega) f1
      replace f2 := Kw4.cell (by omega) f2
      replace q0 := Kw4.cell (by omega) q0
      replace f_q0 := Kw4.frzO (by omega) z_q f_q0
      replace q1 := Kw4.cell (by omega) q1
      replace f_q1 := Kw4.frzO (by omega) z_q f_q1
      replace q2 := Kw4.cell (by omega) q2
      replace f_q2 := Kw4.frzO (by omega) z_q f_q2
      replace e0 := Kw4.cell (by omega) e0
      replace pl0 := Kw4.cell (by omega) pl0
      replace a0 := Kw4.cell (by omega) a0
      replace f_a0 := Kw4.frzO (by omega) z_a f_a0
      replace a1 := Kw4.cell (by omega) a1
      replace f_a1 := Kw4.frzO (by omega) z_a f_a1
      replace b0 : w4.cell? ⟨gb, 0, none⟩ = some (.int .i64 N) := by subst hW6; go_simp
      replace f_b0 : w4.frozen? ⟨gb, 0, none⟩ = false := by subst hW6; first | (simp only [World.frozen?_setCell]; with_reducible assumption) | go_simp
      replace b1 : w4.cell? ⟨gb, 1, none⟩ = some (.int .i64 (-1)) := by subst hW6; go_simp
      replace f_b1 : w4.frozen? ⟨gb, 1, none⟩ = false := by subst hW6; first | (simp only [World.frozen?_setCell]; with_reducible assumption) | go_simp
      replace c0 := Kw4.cell (by omega) c0
      replace f_c0 := Kw4.frzO (by omega) z_c f_c0
      replace c1 := Kw4.cell (by omega) c1
      replace f_c1 := Kw4.frzO (by omega) z_c f_c1
      replace c2 := Kw4.cell (by omega) c2
      replace f_c2 := Kw4.frzO (by omega) z_c f_c2
      clear Kw4
      have z_f : w.heap.size < w4.heap.size := qB f0
      have z_q : w.heap.size + 1 < w4.heap.size := qB q0
      have z_e : bl < w4.heap.size := qB e0
      have z_pl : bp < w4.heap.size := qB pl0
      have z_a : ga < w4.heap.size := qB a0
      have z_b : gb < w4.heap.size := qB b0
      have z_c : gc < w4.heap.size := qB c0
      have s_w4 : w.heap.size ≤ w4.heap.size := Xw4.size
      clear hW6
      clear pl0
      have hB : fldBase al true xs kn = (p + v - 1) := by unfold fldBase; rw [hp.out, hv.out]; simp; omega
      have hmd := made_fld (al := al) (big := true) hf.out hkn hmm.1
      rw [hB, hv.out, hN.out] at hmd
      obtain ⟨⟨XB, XS, XT, XO⟩, hX⟩ : ∃ X, fldV al true xs (kn : Int) many = X := ⟨_, rfl⟩
      rw [hX] at hmd
      replace hmd := Lib.hid hmd
      replace hX := Lib.hid hX
      go_wp2_with fail
      refine (made_e (B := (p + v - 1)) (s := [many, v]) (t := [N, (-1)]) hmd.out ((Ints.two a0 a1 f_a0 f_a1).ext qXt) ((Ints.two b0 b1 f_b0 f_b1).ext qXt)).mono ?_
      rintro e w5 ⟨sh, st, rfl, i5, i6, -, -, -, xw5⟩
      have Lw5 : Ext w4 w5 := Ext.trans qXt xw5
      have Xw5 : Ext w w5 := Xw4.trans Lw5
      replace f0 := Lw5.cell f0
      replace f1 := Lw5.cell f1
      replace f2 := Lw5.cell f2
      replace q0 := Lw5.cell q0
      replace q1 := Lw5.cell q1
      replace q2 := Lw5.cell q2
      replace f_q0 := Lw5.frz z_q f_q0
      replace f_q1 := Lw5.frz z_q f_q1
      replace f_q2 := Lw5.frz z_q f_q2
      replace e0 := Lw5.cell e0
      replace a0 := Lw5.cell a0
      replace a1 := Lw5.cell a1
      replace f_a0 := Lw5.frz z_a f_a0
      replace f_a1 := Lw5.frz z_a f_a1
      replace b0 := Lw5.cell b0
      replace b1 := Lw5.cell b1
      replace f_b0 := Lw5.frz z_b f_b0
      replace f_b1 := Lw5.frz z_b f_b1
      replace c0 := Lw5.cell c0
      replace c1 := Lw5.cell c1
      replace c2 := Lw5.cell c2
      replace f_c0 := Lw5.frz z_c f_c0
      replace f_c1 := Lw5.frz z_c f_c1
      replace f_c2 := Lw5.frz z_c f_c2
      have z_f : w.heap.size < w5.heap.size := qB f0
      have z_q : w.heap.size + 1 < w5.heap.size := qB q0
      have z_e : bl < w5.heap.size := qB e0
      have z_a : ga < w5.heap.size := qB a0
      have z_b : gb < w5.heap.size := qB b0
      have z_c : gc < w5.heap.size := qB c0
      have s_w5 : w.heap.size ≤ w5.heap.size := Xw5.size
      clear xw5
      dsimp only at i5 i6 ⊢
      obtain ⟨p5, c5, rfl⟩ := i5.form
      obtain ⟨p6, c6, rfl⟩ := i6.form
      go_wp2_with fail
      generalize hW7 : (((w5.setCell ⟨w.heap.size + 1, 0, none⟩ (.int .i64 XB)).setCell ⟨w.heap.size + 1, 1, none⟩ (.slice p5 XS.length c5)).setCell ⟨w.heap.size + 1, 2, none⟩ (.slice p6 XT.length c6)) = w6 at *
      have Kw6 : Chg (w.heap.size + 1) (w.heap.size + 1 + 1) w5 w6 := by subst hW7; exact qCh
      have Xw6 : Ext w w6 := by subst hW7; exact qXt
      replace f0 := Kw6.cell (by omega) f0
      replace f1 := Kw6.cell (by omega) f1
      replace f2 := Kw6.cell (by omega) f2
      replace q0 : w6.cell? ⟨w.heap.size + 1, 0, none⟩ = some (.int .i64 XB) := by subst hW7; go_simp
      replace f_q0 : w6.frozen? ⟨w.heap.size + 1, 0, none⟩ = false := by subst hW7; first | (simp only [World.frozen?_setCell]; with_reducible assumption) | go_simp
      replace q1 : w6.cell? ⟨w.heap.size + 1, 1, none⟩ = some (.slice p5 XS.length c5) := by subst hW7; go_simp
      replace f_q1 : w6.frozen? ⟨w.heap.size + 1, 1, none⟩ = false := by subst hW7; first | (simp only [World.frozen?_setCell]; with_reducible assumption) | go_simp
      replace q2 : w6.cell? ⟨w.heap.size + 1, 2, none⟩ = some (.slice p6 XT.length c6) := by subst hW7; go_simp
      replace f_q2 : w6.frozen? ⟨w.heap.size + 1, 2, none⟩ = false := by subst hW7; first | (simp only [World.frozen?_setCell]; with_reducible assumption) | go_simp
      replace e0 := Kw6.cell (by omega) e0
      replace a0 := Kw6.cell (by omega) a0
      replace f_a0 := Kw6.frzO (by omega) z_a f_a0
      replace a1 := Kw6.cell (by omega) a1
      replace f_a1 := Kw6.frzO (by omega) z_a f_a1
      replace b0 := Kw6.cell (by omega) b0
      replace f_b0 := Kw6.frzO (by omega) z_b f_b0
      replace b1 := Kw6.cell (by omega) b1
      replace f_b1 := Kw6.frzO (by omega) z_b f_b1
      replace c0 := Kw6.cell (by omega) c0
      replace f_c0 := Kw6.frzO (by omega) z_c f_c0
      replace c1 := Kw6.cell (by omega) c1
      replace f_c1 := Kw6.frzO (by omega) z_c f_c1
      replace c2 := Kw6.cell (by omega) c2
      replace f_c2 := Kw6.frzO (by omega) z_c f_c2
      replace i5 := i5.chg Kw6 (by omega)
      replace i6 := i6.chg Kw6 (by omega)
      clear Kw6
      have z_f : w.heap.size < w6.heap.size := qB f0
      have z_q : w.heap.size + 1 < w6.heap.size := qB q0
      have z_e : bl < w6.heap.size := qB e0
      have z_a : ga < w6.heap.size := qB a0
      have z_b : gb < w6.heap.size := qB b0
      have z_c : gc < w6.heap.size := qB c0
      have s_w6 : w.heap.size ≤ w6.heap.size := Xw6.size
      clear hW7
      refine bodyPost_ret (v := .tuple #[.agg #[.int .i64 XB, .slice p5 XS.length c5, .slice p6 XT.length c6], .bool XO]) (by simp only [results, Try.results20]; go_simp) rfl ?_
      rw [hX.out]
      exact ⟨_, _, rfl, i5.lower (by omega), i6.lower (by omega), Xw6⟩

end Go.Proofs.Ytpgkhjmboiepcaa

/- Walks: copies that are rows. -/
namespace Go.Proofs.Ytpgkhjmboiepcaa
open Go.RowKit
set_option linter.unusedVariables false
set_option maxRecDepth 100000

end Go.Proofs.Ytpgkhjmboiepcaa

/- Words for memory: slices whose elements take several cells. No condition. -/
namespace Go.Proofs.Ytpgkhjmboiepcaa
open Go.RowKit

theorem flat_len {sz : Nat} : ∀ {L : List (List Value)}, (∀ c ∈ L, c.length = sz) → L.flatten.length = L.length * sz
  | [], _ => by simp
  | c :: L, h => by
    rw [List.flatten_cons, List.length_append, flat_len (fun c hc => h c (List.mem_cons_of_mem _ hc)), h c (List.mem_cons_self ..), List.length_cons, Nat.add_mul]
    omega
theorem flat_get {sz : Nat} : ∀ {L : List (List Value)}, (∀ c ∈ L, c.length = sz) → ∀ (i j : Nat) (hi : i < L.length) (hj : j < sz), L.flatten[i * sz + j]? = (L[i])[j]?
  | [], _, i, j, hi, _ => absurd hi (by simp)
  | c :: L, h, 0, j, _, hj => by
    have hc := h c (List.mem_cons_self ..)
    simp only [List.flatten_cons, Nat.zero_mul, Nat.zero_add, List.getElem_cons_zero]
    rw [List.getElem?_append_left (by omega)]
  | c :: L, h, i+1, j, hi, hj => by
    have hc := h c (List.mem_cons_self ..)
    have hi' : i < L.length := by simpa using hi
    have e : (i + 1) * sz + j = c.length + (i * sz + j) := by rw [Nat.add_mul, hc]; omega
    rw [List.flatten_cons, e, List.getElem?_append_right (by omega), Nat.add_sub_cancel_left, flat_get (fun c hc => h c (List.mem_cons_of_mem _ hc)) i j hi' hj]
    simp
theorem flat_set {sz : Nat} : ∀ {L : List (List Value)}, (∀ c ∈ L, c.length = sz) → ∀ (i j : Nat) (hi : i < L.length) (hj : j < sz) (x : Value), L.flatten.set (i * sz + j) x = (L.set i ((L[i]).set j x)).flatten
  | [], _, i, j, hi, _, _ => absurd hi (by simp)
  | c :: L, h, 0, j, _, hj, x => by
    have hc := h c (List.mem_cons_self ..)
    simp only [List.flatten_cons, Nat.zero_mul, Nat.zero_add, List.set_cons_zero, List.getElem_cons_zero]
    rw [List.set_append_left _ _ (by omega)]
  | c :: L, h, i+1, j, hi, hj, x => by
    have hc := h c (List.mem_cons_self ..)
    have hi' : i < L.length := by simpa using hi
    have e : (i + 1) * sz + j = c.length + (i * sz + j) := by rw [Nat.add_mul, hc]; omega
    rw [List.flatten_cons, e, List.set_append_right _ _ (by omega), Nat.add_sub_cancel_left, flat_set (fun c hc => h c (List.mem_cons_of_mem _ hc)) i j hi' hj x]
    simp
theorem mem_set_len {sz : Nat} {L : List (List Value)} (h : ∀ c ∈ L, c.length = sz) (i : Nat) {d : List Value} (hd : d.length = sz) : ∀ c ∈ L.set i d, c.length = sz := by
  intro c hc
  rcases List.mem_or_eq_of_mem_set hc with h' | h'
  · exact h c h'
  · rw [h', hd]

/-- an owned row whose elements take sz cells each -/
def OwnC (w : World) (base E sz : Nat) (v : Value) (L : List (List Value)) : Prop := w.ownsRow base E sz v L.length L.flatten ∧ ∀ c ∈ L, c.length = sz

section
variable {w w' : World} {base base' E sz : Nat} {v : Value} {L : List (List Value)}
theorem OwnC.nil : OwnC w base E sz (.slice none 0 0) [] := ⟨World.ownsRow_nil _ _ _ _, fun c hc => by cases hc⟩
theorem OwnC.ext (h : OwnC w base E sz v L) (hx : Ext w w') : OwnC w' base E sz v L := by
  refine ⟨⟨h.1.1, ?_⟩, h.2⟩
  rcases h.1.2 with h2 | ⟨g, cap, cur, hv, hg, hh, r⟩
  · exact .inl h2
  · exact .inr ⟨g, cap, cur, hv, hg, (hx.block g (Array.getElem?_eq_some_iff.1 hh).1).trans hh, r⟩
theorem OwnC.lower (h : OwnC w base E sz v L) (hb : base' ≤ base) : OwnC w base' E sz v L :=
  ⟨⟨h.1.1, h.1.2.imp id fun ⟨g, cap, cur, hv, hg, r⟩ => ⟨g, cap, cur, hv, Nat.le_trans hb hg, r⟩⟩, h.2⟩
theorem OwnC.chg {lo hi : Nat} (h : OwnC w base E sz v L) (k : Chg lo hi w w') (hb : hi ≤ base) : OwnC w' base E sz v L := by
  refine ⟨⟨h.1.1, ?_⟩, h.2⟩
  rcases h.1.2 with h2 | ⟨g, cap, cur, hv, hg, hh, r⟩
  · exact .inl h2
  · exact .inr ⟨g, cap, cur, hv, hg, (k.block g (Array.getElem?_eq_some_iff.1 hh).1 (.inr (by omega))).trans hh, r⟩
theorem OwnC.form (h : OwnC w base E sz v L) : ∃ a c, v = .slice a L.length c := by
  rcases h.1.2 with ⟨rfl, h0⟩ | ⟨g, cap, cur, rfl, _⟩
  · rw [h0]; exact ⟨_, _, rfl⟩
  · exact ⟨_, _, rfl⟩
theorem OwnC.lt (h : OwnC w base E sz v L) (hn : L ≠ []) : ∃ g c, v = .slice (some ⟨g, 0, none⟩) L.length c ∧ v.ownBlock = some g ∧ base ≤ g ∧ g < w.heap.size ∧ L.length ≤ c ∧ c ≤ maxLen := by
  rcases h.1.2 with ⟨rfl, h0⟩ | ⟨g, cap, cur, rfl, hb, hh, h1, h2, _⟩
  · exact absurd (List.eq_nil_of_length_eq_zero h0) hn
  · exact ⟨g, cap, rfl, rfl, hb, (Array.getElem?_eq_some_iff.1 hh).1, h1, h2⟩
theorem OwnC.cell {g c : Nat} (h : OwnC w base E sz (.slice (some ⟨g, 0, none⟩) L.length c) L) (i j : Nat) (hi : i < L.length) (hj : j < sz) :
    w.cell? ⟨g, i * sz + j, none⟩ = (L[i])[j]? ∧ w.frozen? ⟨g, i * sz + j, none⟩ = false := by
  refine ⟨?_, World.ownsRow.frozenAt h.1 _⟩
  rw [World.ownsRow.cellAt h.1 _ ?_, flat_get h.2 i j hi hj]
  calc i * sz + j < i * sz + sz := by omega
    _ = (i + 1) * sz := by rw [Nat.add_mul]; omega
    _ ≤ L.length * sz := Nat.mul_le_mul_right _ hi
theorem OwnC.set {g c : Nat} (h : OwnC w base E sz (.slice (some ⟨g, 0, none⟩) L.length c) L) (i j : Nat) (hi : i < L.length) (hj : j < sz) (x : Value) :
    OwnC (w.setCell ⟨g, i * sz + j, none⟩ x) base E sz (.slice (some ⟨g, 0, none⟩) L.length c) (L.set i ((L[i]).set j x)) := by
  have h1 := (World.ownsRow.stored h.1 (i * sz + j) x).1
  rw [flat_set h.2 i j hi hj] at h1
  refine ⟨by rw [List.length_set]; exact h1, mem_set_len h.2 i ?_⟩
  rw [List.length_set]; exact h.2 _ (List.getElem_mem hi)
theorem OwnC.made (w : World) (cs : Array Value) (n : Nat) (hb : base ≤ w.heap.size) (hm : L.length ≤ maxLen) (hs : cs.toList = L.flatten) (hl : ∀ c ∈ L, c.length = sz) :
    OwnC (w.alloc (.cells cs E)) base E sz (.slice (some ⟨w.heap.size, 0, none⟩) L.length L.length) L := by
  refine ⟨?_, hl⟩
  rw [← hs]
  exact World.ownsRow_lit w cs L.length hb hm (by have := congrArg List.length hs; rw [flat_len hl] at this; simpa using this)

end
section
variable {T E sz bytes : Nat} {z : Value} {w : World} {base : Nat} {v src : Value} {L : List (List Value)} {c : List Value}
end

end Go.Proofs.Ytpgkhjmboiepcaa

/- Words for memory: rows of records, told by cells. No condition. -/
namespace Go.Proofs.Ytpgkhjmboiepcaa
open Go.RowKit
set_option linter.unusedVariables false
set_option maxRecDepth 100000

section
variable {w w' : World} {base E sz : Nat} {v : Value} {L : List (List Value)}
theorem OwnC.blkM (h : OwnC w base E sz v L) (g : Nat) (hg : v.ownBlock = some g) : base ≤ g ∧ g < w.heap.size := World.ownsRow.lt h.1 g hg
end
end Go.Proofs.Ytpgkhjmboiepcaa

/- Words for memory: lists of records (Tensor). No condition. -/
namespace Go.Proofs.Ytpgkhjmboiepcaa
open Go.RowKit
set_option linter.unusedVariables false
set_option maxRecDepth 100000

/-- a record -/
structure Ten where
  s : List Int
  t : List Int
def noTen : Ten := ⟨[], []⟩
def tenAt (rs : List Ten) (i : Nat) : Ten := rs.getD i noTen
/-- the slice value v reads as the records rs; its cells, and their rows', lie in blocks from lo on -/
def Tens (w : World) (lo : Nat) (v : Value) (rs : List Ten) : Prop :=
  ∃ a cap, v = .slice a rs.length cap ∧ rs.length ≤ cap ∧ cap ≤ maxLen ∧ (rs.length ≤ 1048576 ∧ (a = none → cap = 0)) ∧
    ∀ i, i < rs.length → ∃ bl off u1 c1 u2 c2, a = some ⟨bl, off, none⟩ ∧ lo ≤ bl ∧ w.cell? ⟨bl, off + i * 2, none⟩ = some (.slice u1 (tenAt rs i).s.length c1) ∧ w.cell? ⟨bl, off + i * 2 + 1, none⟩ = some (.slice u2 (tenAt rs i).t.length c2) ∧ Ints w lo (.slice u1 (tenAt rs i).s.length c1) (tenAt rs i).s ∧ Ints w lo (.slice u2 (tenAt rs i).t.length c2) (tenAt rs i).t
section
variable {w w' : World} {lo lo' : Nat} {v : Value} {rs : List Ten}
theorem Tens.ext (h : Tens w lo v rs) (hx : Ext w w') : Tens w' lo v rs := by
  obtain ⟨a, cap, hv, h1, h2, h3, h4⟩ := h
  refine ⟨a, cap, hv, h1, h2, h3, fun i hi => ?_⟩
  obtain ⟨bl, off, u1, c1, u2, c2, ha, hl, k0, k1, j1, j2⟩ := h4 i hi
  exact ⟨bl, off, u1, c1, u2, c2, ha, hl, hx.cell k0, hx.cell k1, j1.ext hx, j2.ext hx⟩
theorem Tens.lower (h : Tens w lo v rs) (hl : lo' ≤ lo) : Tens w lo' v rs := by
  obtain ⟨a, cap, hv, h1, h2, h3, h4⟩ := h
  refine ⟨a, cap, hv, h1, h2, h3, fun i hi => ?_⟩
  obtain ⟨bl, off, u1, c1, u2, c2, ha, hb, k0, k1, j1, j2⟩ := h4 i hi
  exact ⟨bl, off, u1, c1, u2, c2, ha, by omega, k0, k1, j1.lower hl, j2.lower hl⟩
theorem Tens.chg {l h' : Nat} (h : Tens w lo v rs) (k : Chg l h' w w') (hb : h' ≤ lo) : Tens w' lo v rs := by
  obtain ⟨a, cap, hv, h1, h2, h3, h4⟩ := h
  refine ⟨a, cap, hv, h1, h2, h3, fun i hi => ?_⟩
  obtain ⟨bl, off, u1, c1, u2, c2, ha, hb', k0, k1, j1, j2⟩ := h4 i hi
  exact ⟨bl, off, u1, c1, u2, c2, ha, hb', k.cell (.inr (by omega)) k0, k.cell (.inr (by omega)) k1, j1.chg k hb, j2.chg k hb⟩
theorem Tens.form (h : Tens w lo v rs) : ∃ a c, v = .slice a rs.length c := by obtain ⟨a, cap, rfl, _⟩ := h; exact ⟨_, _, rfl⟩
theorem Tens.len (h : Tens w lo v rs) : rs.length ≤ 1048576 := by obtain ⟨_, _, _, _, _, ⟨h, _⟩, _⟩ := h; exact h
theorem Tens.nil (w : World) (lo : Nat) : Tens w lo (.slice none 0 0) [] := ⟨none, 0, rfl, by simp, by simp, ⟨by simp, fun _ => rfl⟩, fun i hi => absurd hi (by simp)⟩
/-- the cells of one record -/
theorem Tens.at {a : Option Addr} {n c : Nat} (h : Tens w lo (.slice a n c) rs) (i : Nat) (hi : i < rs.length) : ∃ bl off u1 c1 u2 c2, a = some ⟨bl, off, none⟩ ∧ w.cell? ⟨bl, off + i * 2, none⟩ = some (.slice u1 (tenAt rs i).s.length c1) ∧ w.cell? ⟨bl, off + i * 2 + 1, none⟩ = some (.slice u2 (tenAt rs i).t.length c2) ∧ Ints w lo (.slice u1 (tenAt rs i).s.length c1) (tenAt rs i).s ∧ Ints w lo (.slice u2 (tenAt rs i).t.length c2) (tenAt rs i).t := by
  obtain ⟨a', cap, hv, h1, h2, h3, h4⟩ := h
  cases hv
  obtain ⟨bl, off, u1, c1, u2, c2, ha, hb, k⟩ := h4 i hi
  exact ⟨bl, off, u1, c1, u2, c2, ha, k⟩
end
def erowCT (e : Ten) (u1 : Value) (u2 : Value) : List Value := [u1, u2]
def rowCT (rs : List Ten) (R : Nat → Value) : List (List Value) := (List.range rs.length).map fun i => erowCT (tenAt rs i) (R (2 * i)) (R (2 * i + 1))
end Go.Proofs.Ytpgkhjmboiepcaa

/- Words for memory: lists of records (IntS). No condition. -/
namespace Go.Proofs.Ytpgkhjmboiepcaa
open Go.RowKit
set_option linter.unusedVariables false
set_option maxRecDepth 100000

/-- a record -/
structure Lst where
  s : List Int
def noLst : Lst := ⟨[]⟩
def lstAt (rs : List Lst) (i : Nat) : Lst := rs.getD i noLst
/-- the slice value v reads as the records rs; its cells, and their rows', lie in blocks from lo on -/
def Lsts (w : World) (lo : Nat) (v : Value) (rs : List Lst) : Prop :=
  ∃ a cap, v = .slice a rs.length cap ∧ rs.length ≤ cap ∧ cap ≤ maxLen ∧ (rs.length ≤ 1048576 ∧ (a = none → cap = 0)) ∧
    ∀ i, i < rs.length → ∃ bl off u1 c1, a = some ⟨bl, off, none⟩ ∧ lo ≤ bl ∧ w.cell? ⟨bl, off + i, none⟩ = some (.slice u1 (lstAt rs i).s.length c1) ∧ Ints w lo (.slice u1 (lstAt rs i).s.length c1) (lstAt rs i).s
section
variable {w w' : World} {lo lo' : Nat} {v : Value} {rs : List Lst}
theorem Lsts.ext (h : Lsts w lo v rs) (hx : Ext w w') : Lsts w' lo v rs := by
  obtain ⟨a, cap, hv, h1, h2, h3, h4⟩ := h
  refine ⟨a, cap, hv, h1, h2, h3, fun i hi => ?_⟩
  obtain ⟨bl, off, u1, c1, ha, hl, k0, j1⟩ := h4 i hi
  exact ⟨bl, off, u1, c1, ha, hl, hx.cell k0, j1.ext hx⟩
theorem Lsts.lower (h : Lsts w lo v rs) (hl : lo' ≤ lo) : Lsts w lo' v rs := by
  obtain ⟨a, cap, hv, h1, h2, h3, h4⟩ := h
  refine ⟨a, cap, hv, h1, h2, h3, fun i hi => ?_⟩
  obtain ⟨bl, off, u1, c1, ha, hb, k0, j1⟩ := h4 i hi
  exact ⟨bl, off, u1, c1, ha, by omega, k0, j1.lower hl⟩
theorem Lsts.chg {l h' : Nat} (h : Lsts w lo v rs) (k : Chg l h' w w') (hb : h' ≤ lo) : Lsts w' lo v rs := by
  obtain ⟨a, cap, hv, h1, h2, h3, h4⟩ := h
  refine ⟨a, cap, hv, h1, h2, h3, fun i hi => ?_⟩
  obtain ⟨bl, off, u1, c1, ha, hb', k0, j1⟩ := h4 i hi
  exact ⟨bl, off, u1, c1, ha, hb', k.cell (.inr (by omega)) k0, j1.chg k hb⟩
theorem Lsts.form (h : Lsts w lo v rs) : ∃ a c, v = .slice a rs.length c := by obtain ⟨a, cap, rfl, _⟩ := h; exact ⟨_, _, rfl⟩
theorem Lsts.len (h : Lsts w lo v rs) : rs.length ≤ 1048576 := by obtain ⟨_, _, _, _, _, ⟨h, _⟩, _⟩ := h; exact h
theorem Lsts.nil (w : World) (lo : Nat) : Lsts w lo (.slice none 0 0) [] := ⟨none, 0, rfl, by simp, by simp, ⟨by simp, fun _ => rfl⟩, fun i hi => absurd hi (by simp)⟩
/-- the cells of one record -/
theorem Lsts.at {a : Option Addr} {n c : Nat} (h : Lsts w lo (.slice a n c) rs) (i : Nat) (hi : i < rs.length) : ∃ bl off u1 c1, a = some ⟨bl, off, none⟩ ∧ w.cell? ⟨bl, off + i, none⟩ = some (.slice u1 (lstAt rs i).s.length c1) ∧ Ints w lo (.slice u1 (lstAt rs i).s.length c1) (lstAt rs i).s := by
  obtain ⟨a', cap, hv, h1, h2, h3, h4⟩ := h
  cases hv
  obtain ⟨bl, off, u1, c1, ha, hb, k⟩ := h4 i hi
  exact ⟨bl, off, u1, c1, ha, k⟩
end
def erowCL (e : Lst) (u1 : Value) : List Value := [u1]
def rowCL (rs : List Lst) (R : Nat → Value) : List (List Value) := (List.range rs.length).map fun i => erowCL (lstAt rs i) (R (i))
end Go.Proofs.Ytpgkhjmboiepcaa

/- Words for memory: tensors, lists of labels and labels in three rows that grow side by side. No condition. -/
namespace Go.Proofs.Ytpgkhjmboiepcaa
open Go.RowKit
set_option linter.unusedVariables false
set_option maxRecDepth 100000

/-- blocks outside S are as they were -/
structure Keep (S : Nat → Prop) (w w' : World) : Prop where
  size : w.heap.size ≤ w'.heap.size
  block : ∀ g, g < w.heap.size → ¬ S g → w'.heap[g]? = w.heap[g]?
section
variable {w w' : World} {S : Nat → Prop}
theorem Keep.of_ext (h : Ext w w') : Keep S w w' := ⟨h.size, fun g hg _ => h.block g hg⟩
theorem Keep.of_chg {l u : Nat} (h : Chg l u w w') (hS : ∀ g, l ≤ g → g < u → S g) : Keep S w w' := ⟨h.size, fun g hg hn => h.block g hg (by
  rcases Nat.lt_or_ge g l with h1 | h1
  · exact .inl h1
  · rcases Nat.lt_or_ge g u with h2 | h2
    · exact absurd (hS g h1 h2) hn
    · exact .inr h2)⟩
theorem Keep.of_below {B : Nat} (h : Below B w w') (hS : ∀ g, B ≤ g → S g) : Keep S w w' := ⟨h.size, fun g hg hn => h.block g (by
  rcases Nat.lt_or_ge g B with h1 | h1
  · exact h1
  · exact absurd (hS g h1) hn)⟩
theorem OwnC.keepS {base E sz : Nat} {v : Value} {L : List (List Value)} (h : OwnC w base E sz v L) (k : Keep S w w') (hv : ∀ g, v.ownBlock = some g → ¬ S g) : OwnC w' base E sz v L := by
  refine ⟨⟨h.1.1, ?_⟩, h.2⟩
  rcases h.1.2 with h2 | ⟨g, cap, cur, e, hg, hh, r⟩
  · exact .inl h2
  · refine .inr ⟨g, cap, cur, e, hg, (k.block g (Array.getElem?_eq_some_iff.1 hh).1 (hv g ?_)).trans hh, r⟩
    rw [e]; rfl
theorem OwnI.keepS {base : Nat} {v : Value} {xs : List Int} (h : OwnI w base v xs) (k : Keep S w w') (hv : ∀ g, v.ownBlock = some g → ¬ S g) : OwnI w' base v xs := by
  refine ⟨h.1, ?_⟩
  rcases h.2 with h2 | ⟨g, cap, cur, e, hg, hh, r⟩
  · exact .inl h2
  · refine .inr ⟨g, cap, cur, e, hg, (k.block g (Array.getElem?_eq_some_iff.1 hh).1 (hv g ?_)).trans hh, r⟩
    rw [e]; rfl
theorem OwnI.blkM {base : Nat} {v : Value} {xs : List Int} (h : OwnI w base v xs) (g : Nat) (hg : v.ownBlock = some g) : base ≤ g ∧ g < w.heap.size := World.ownsRow.lt h g hg
end

/-- tensors, lists of labels and labels in rows that grow; the block of the first list is b0 -/
structure Trio (w : World) (B hi : Nat) (tv lv av : Value) (ts : List Ten) (ls : List Lst) (al : List Int) (RT RL : Nat → Value) (bt bl ba b0 : Nat) : Prop where
  ot : OwnC w B 29 2 tv (rowCT ts RT)
  ol : OwnC w B 23 1 lv (rowCL ls RL)
  oa : OwnI w B av al
  et : tv.ownBlock = some bt
  el : lv.ownBlock = some bl
  ea : av.ownBlock = some ba
  ne : bt ≠ bl ∧ bt ≠ ba ∧ bl ≠ ba ∧ b0 ≠ bt ∧ b0 ≠ bl ∧ b0 ≠ ba
  lt : bt < hi ∧ bl < hi ∧ ba < hi ∧ b0 < hi ∧ hi ≤ w.heap.size
  it : ∀ i, i < ts.length → (OwnI w B (RT (2 * i)) (tenAt ts i).s ∧ (tenAt ts i).s.length ≤ 1000) ∧ (OwnI w B (RT (2 * i + 1)) (tenAt ts i).t ∧ (tenAt ts i).t.length ≤ 1000)
  at_ : ∀ p, p < 2 * ts.length → ∀ g, (RT p).ownBlock = some g → g < hi ∧ g ≠ bt ∧ g ≠ bl ∧ g ≠ ba ∧ g ≠ b0
  il : ∀ i, i < ls.length → OwnI w B (RL i) (lstAt ls i).s ∧ (lstAt ls i).s.length ≤ 1000
  al_ : ∀ i, i < ls.length → ∀ g, (RL i).ownBlock = some g → g < hi ∧ g ≠ bt ∧ g ≠ bl ∧ g ≠ ba ∧ (i ≠ 0 → g ≠ b0)
  first : 0 < ls.length → (RL 0).ownBlock = some b0
section
variable {w w' : World} {B hi : Nat} {tv lv av : Value} {ts : List Ten} {ls : List Lst} {al : List Int} {RT RL : Nat → Value} {bt bl ba b0 : Nat}
theorem Trio.keep {S : Nat → Prop} (h : Trio w B hi tv lv av ts ls al RT RL bt bl ba b0) (k : Keep S w w') (hS : ∀ g, B ≤ g → g < hi → ¬ S g) : Trio w' B hi tv lv av ts ls al RT RL bt bl ba b0 := by
  obtain ⟨ot, ol, oa, et, el, ea, ne, lt, it, at_, il, al_, first⟩ := h
  refine ⟨ot.keepS k (fun g hg => hS g (ot.blkM g hg).1 ?_), ol.keepS k (fun g hg => hS g (ol.blkM g hg).1 ?_), oa.keepS k (fun g hg => hS g (oa.blkM g hg).1 ?_), et, el, ea, ne, ⟨lt.1, lt.2.1, lt.2.2.1, lt.2.2.2.1, Nat.le_trans lt.2.2.2.2 k.size⟩, fun i hi' => ?_, at_, fun i hi' => ?_, al_, first⟩
  · rw [et] at hg; cases hg; exact lt.1
  · rw [el] at hg; cases hg; exact lt.2.1
  · rw [ea] at hg; cases hg; exact lt.2.2.1
  · obtain ⟨⟨o1, m1⟩, o2, m2⟩ := it i hi'
    exact ⟨⟨o1.keepS k (fun g hg => hS g (o1.blkM g hg).1 (at_ (2 * i) (by omega) g hg).1), m1⟩, o2.keepS k (fun g hg => hS g (o2.blkM g hg).1 (at_ (2 * i + 1) (by omega) g hg).1), m2⟩
  · obtain ⟨o1, m1⟩ := il i hi'
    exact ⟨o1.keepS k (fun g hg => hS g (o1.blkM g hg).1 (al_ i hi' g hg).1), m1⟩
theorem Trio.ext (h : Trio w B hi tv lv av ts ls al RT RL bt bl ba b0) (k : Ext w w') : Trio w' B hi tv lv av ts ls al RT RL bt bl ba b0 := h.keep (S := fun _ => False) (.of_ext k) (fun _ _ _ h => h)
theorem Trio.chg {l u : Nat} (h : Trio w B hi tv lv av ts ls al RT RL bt bl ba b0) (k : Chg l u w w') (hu : u ≤ B) : Trio w' B hi tv lv av ts ls al RT RL bt bl ba b0 := h.keep (S := fun g => g < B) (.of_chg k (fun g _ h2 => by omega)) (fun g h1 _ h3 => by omega)
theorem Trio.below {H : Nat} (h : Trio w B hi tv lv av ts ls al RT RL bt bl ba b0) (k : Below H w w') (hu : hi ≤ H) : Trio w' B hi tv lv av ts ls al RT RL bt bl ba b0 := h.keep (S := fun g => H ≤ g) (.of_below k (fun g h => h)) (fun g _ h2 h3 => by omega)
theorem Trio.chgN {l u : Nat} (h : Trio w B hi tv lv av ts ls al RT RL bt bl ba b0) (k : Chg l u w w') (hu : hi ≤ l ∨ u ≤ B) : Trio w' B hi tv lv av ts ls al RT RL bt bl ba b0 :=
  h.keep (S := fun g => l ≤ g ∧ g < u) (.of_chg k (fun g h1 h2 => ⟨h1, h2⟩)) (fun g h1 h2 h3 => by omega)
theorem Trio.up {h2 : Nat} (h : Trio w B hi tv lv av ts ls al RT RL bt bl ba b0) (h1 : hi ≤ h2) (hb : h2 ≤ w.heap.size) : Trio w B h2 tv lv av ts ls al RT RL bt bl ba b0 := by
  obtain ⟨ot, ol, oa, et, el, ea, ne, lt, it, at_, il, al_, first⟩ := h
  exact ⟨ot, ol, oa, et, el, ea, ne, by omega, it, fun p hp g hg => by have := at_ p hp g hg; omega, il, fun i hi g hg => by have := al_ i hi g hg; exact ⟨by omega, this.2⟩, first⟩
end
/-- three empty literals -/
theorem Trio.made (w : World) (B bt bl ba b0 : Nat) (h1 : OwnC w B 29 2 (.slice (some ⟨bt, 0, none⟩) 0 0) []) (h2 : OwnC w B 23 1 (.slice (some ⟨bl, 0, none⟩) 0 0) []) (h3 : OwnI w B (.slice (some ⟨ba, 0, none⟩) 0 0) []) (ne : bt ≠ bl ∧ bt ≠ ba ∧ bl ≠ ba ∧ b0 ≠ bt ∧ b0 ≠ bl ∧ b0 ≠ ba) (lt : b0 < w.heap.size) :
    Trio w B w.heap.size (.slice (some ⟨bt, 0, none⟩) 0 0) (.slice (some ⟨bl, 0, none⟩) 0 0) (.slice (some ⟨ba, 0, none⟩) 0 0) [] [] [] (fun _ => .slice none 0 0) (fun _ => .slice none 0 0) bt bl ba b0 :=
  ⟨h1, h2, h3, rfl, rfl, rfl, ne, ⟨(h1.blkM bt rfl).2, (h2.blkM bl rfl).2, (h3.blkM ba rfl).2, lt, Nat.le_refl _⟩, fun i hi => absurd hi (by simp), fun i hi => absurd hi (by simp), fun i hi => absurd hi (by simp), fun i hi => absurd hi (by simp), fun h => absurd h (by simp)⟩
end Go.Proofs.Ytpgkhjmboiepcaa

/- Walks: a format is drawn. -/
namespace Go.Proofs.Ytpgkhjmboiepcaa
open Go.RowKit
set_option linter.unusedVariables false
set_option maxRecDepth 100000

/-- a format is drawn -/
def PFmt (rb q : Nat) (w : World) (e : Ending) (w' : World) : Prop := ∃ (xs : List Int) (big al : Bool) (p : Option Addr) (c : Nat), e = .returned (.agg #[.slice p xs.length c, .bool big, .bool al]) ∧ Ints w' w.heap.size (.slice p xs.length c) xs ∧ xs.length ≤ 5 ∧ Rd w' rb q ∧ Chg rb (rb + 1) w w'
set_option maxHeartbeats 12800000 in
theorem someFormat_c (rb k : Nat) (w : World) (hr : Rd w rb k) (hk : k ≤ 700000) :
  Calls Try.prog 50 #[.pointer (some ⟨rb, 0, none⟩)] w (PFmt rb (k + 30) w) := by
 have hlt := hr.lt
 go_enter Try.func50, Try.ntmps50
 go_wp2_with fail
 generalize hW1 : w.alloc (.cells #[.slice none 0 0, .bool false, .bool false] 42) = w1 at *
 have Lw1 : Ext w w1 := by subst hW1; exact qXt
 have Xw1 : Rch rb w w1 := Rch.ext (Rch.refl rb w) Lw1
 replace hr := hr.ext Lw1
 have q0 : w1.cell? ⟨w.heap.size, 0, none⟩ = some (.slice none 0 0) := by subst hW1; exact qCl
 have q1 : w1.cell? ⟨w.heap.size, 1, none⟩ = some (.bool false) := by subst hW1; exact qCl
 have q2 : w1.cell? ⟨w.heap.size, 2, none⟩ = some (.bool false) := by subst hW1; exact qCl
 have f_q0 : w1.frozen? ⟨w.heap.size, 0, none⟩ = false := by subst hW1; exact qFz
 have f_q1 : w1.frozen? ⟨w.heap.size, 1, none⟩ = false := by subst hW1; exact qFz
 have f_q2 : w1.frozen? ⟨w.heap.size, 2, none⟩ = false := by subst hW1; exact qFz
 have z_q : w.heap.size < w1.heap.size := qB q0
 have s_w1 : w.heap.size ≤ w1.heap.size := Xw1.size
 clear hW1
 refine (pick1_c 2 _ _ _ hr (by omega) (by omega)).mono ?_
 rintro e w2 ⟨y1, rfl, hy1, Rw2, Cw2⟩
 have zc_w2 := Cw2.size
 have Xw2 : Rch rb w w2 := Rch.step (Xw1) Cw2
 replace q0 := Cw2.cell (by omega) q0
 replace f_q0 := Cw2.frzO (by omega) (by omega) f_q0
 replace q1 := Cw2.cell (by omega) q1
 replace f_q1 := Cw2.frzO (by omega) (by omega) f_q1
 replace q2 := Cw2.cell (by omega) q2
 replace f_q2 := Cw2.frzO (by omega) (by omega) f_q2
 have z_q : w.heap.size < w2.heap.size := qB q0
 have s_w2 : w.heap.size ≤ w2.heap.size := Xw2.size
 clear hr Cw2
 clear hy1
 obtain ⟨bg, hbg⟩ : ∃ b, (y1 == 0) = b := ⟨_, rfl⟩
 go_wp2_with fail
 refine (pick1_c 2 _ _ _ Rw2 (by omega) (by omega)).mono ?_
 rintro e w3 ⟨y2, rfl, hy2, Rw3, Cw3⟩
 have zc_w3 := Cw3.size
 have Xw3 : Rch rb w w3 := Rch.step (Xw2) Cw3
 replace q0 := Cw3.cell (by omega) q0
 replace f_q0 := Cw3.frzO (by omega) (by omega) f_q0
 replace q1 := Cw3.cell (by omega) q1
 replace f_q1 := Cw3.frzO (by omega) (by omega) f_q1
 replace q2 := Cw3.cell (by omega) q2
 replace f_q2 := Cw3.frzO (by omega) (by omega) f_q2
 have z_q : w.heap.size < w3.heap.size := qB q0
 have s_w3 : w.heap.size ≤ w3.heap.size := Xw3.size
 clear Rw2 Cw3
 clear hy2
 obtain ⟨al, hal⟩ : ∃ b, (y2 == 0) = b := ⟨_, rfl⟩
 go_upto_region 2 with fail
 generalize hW2 : w3.alloc (.cells #[.slice none 0 0, .bool bg, .bool al] 42) = w4 at *
 have Lw4 : Ext w3 w4 := by subst hW2; exact qXt
 have Xw4 : Rch rb w w4 := Rch.ext Xw3 Lw4
 replace Rw3 := Rw3.ext Lw4
 replace q0 := Lw4.cell q0
 replace q1 := Lw4.cell q1
 replace q2 := Lw4.cell q2
 replace f_q0 := Lw4.frz z_q f_q0
 replace f_q1 := Lw4.frz z_q f_q1
 replace f_q2 := Lw4.frz z_q f_q2
 have y0 : w4.cell? ⟨w3.heap.size, 0, none⟩ = some (.slice none 0 0) := by subst hW2; exact qCl
 have y1 : w4.cell? ⟨w3.heap.size, 1, none⟩ = some (.bool bg) := by subst hW2; exact qCl
 have y2 : w4.cell? ⟨w3.heap.size, 2, none⟩ = some (.bool al) := by subst hW2; exact qCl
 have f_y0 : w4.frozen? ⟨w3.heap.size, 0, none⟩ = false := by subst hW2; exact qFz
 have f_y1 : w4.frozen? ⟨w3.heap.size, 1, none⟩ = false := by subst hW2; exact qFz
 have f_y2 : w4.frozen? ⟨w3.heap.size, 2, none⟩ = false := by subst hW2; exact qFz
 have z_q : w.heap.size < w4.heap.size := qB q0
 have z_y : w3.heap.size < w4.heap.size := qB y0
 have s_w4 : w.heap.size ≤ w4.heap.size := Xw4.size
 clear hW2
 clear hbg hal
 have hgy : w.heap.size < w3.heap.size := by omega
 generalize w3.heap.size = gy at *
 have z_q : w.heap.size < w4.heap.size := qB q0
 have z_y : gy < w4.heap.size := qB y0
 go_wp2_with fail
 refine (oneLit_c #[.int .i64 2, .int .i64 3, .int .i64 1, .int .i64 4, .int .i64 5] 5 _ _ _ _ Rw3 (by omega) (by rfl) (by rfl) (by constructor <;> simp) (by first | rfl | omega | simp)).mono ?_
 rintro e w5 ⟨n, rfl, hn, Rw5, Cw5⟩
 have Ew5 : Ext w4 (w4.alloc (.cells #[.int .i64 2, .int .i64 3, .int .i64 1, .int .i64 4, .int .i64 5] 3)) := qXt
 have e_w5 := Ew5.size
 have zc_w5 := Cw5.size
 have Xw5 : Rch rb w w5 := Rch.step (Rch.ext Xw4 Ew5) Cw5
 replace q0 := Cw5.cell (by omega) (Ew5.cell q0)
 replace f_q0 := Cw5.frzO (by omega) (by omega) (Ew5.frz z_q f_q0)
 replace q1 := Cw5.cell (by omega) (Ew5.cell q1)
 replace f_q1 := Cw5.frzO (by omega) (by omega) (Ew5.frz z_q f_q1)
 replace q2 := Cw5.cell (by omega) (Ew5.cell q2)
 replace f_q2 := Cw5.frzO (by omega) (by omega) (Ew5.frz z_q f_q2)
 replace y0 := Cw5.cell (by omega) (Ew5.cell y0)
 replace f_y0 := Cw5.frzO (by omega) (by omega) (Ew5.frz z_y f_y0)
 replace y1 := Cw5.cell (by omega) (Ew5.cell y1)
 replace f_y1 := Cw5.frzO (by omega) (by omega) (Ew5.frz z_y f_y1)
 replace y2 := Cw5.cell (by omega) (Ew5.cell y2)
 replace f_y2 := Cw5.frzO (by omega) (by omega) (Ew5.frz z_y f_y2)
 have z_q : w.heap.size < w5.heap.size := qB q0
 have z_y : gy < w5.heap.size := qB y0
 have s_w5 : w.heap.size ≤ w5.heap.size := Xw5.size
 clear Rw3 Cw5 Ew5
 have hn5 : 1 ≤ n ∧ n ≤ 5 := by have h7 : n ∈ [2, 3, 1, 4, 5] := hn; simp at h7; omega
 clear hn
 have hrgy : rb < gy := by omega
 go_wp2_with fail
 go_loopw [4] (fun i wr => ∃ (q : Nat) (m : Int) (xs : List Int) (pv : Option Addr) (cv : Nat), i = .int .i64 m ∧ 0 ≤ m ∧ (xs.length : Int) + m = n ∧ q ≤ k + 3 + xs.length ∧ OwnI wr (gy + 1) (.slice pv xs.length cv) xs ∧ gy < wr.heap.size ∧ wr.cell? ⟨w.heap.size, 0, none⟩ = some (.slice none 0 0) ∧ wr.frozen? ⟨w.heap.size, 0, none⟩ = false ∧ wr.cell? ⟨w.heap.size, 1, none⟩ = some (.bool false) ∧ wr.frozen? ⟨w.heap.size, 1, none⟩ = false ∧ wr.cell? ⟨w.heap.size, 2, none⟩ = some (.bool false) ∧ wr.frozen? ⟨w.heap.size, 2, none⟩ = false ∧ wr.cell? ⟨gy, 0, none⟩ = some (.slice pv xs.length cv) ∧ wr.frozen? ⟨gy, 0, none⟩ = false ∧ wr.cell? ⟨gy, 1, none⟩ = some (.bool bg) ∧ wr.frozen? ⟨gy, 1, none⟩ = false ∧ wr.cell? ⟨gy, 2, none⟩ = some (.bool al) ∧ wr.frozen? ⟨gy, 2, none⟩ = false ∧ Rd wr rb q ∧ Rch rb w wr) (fun i _ => (intOf i).toNat)
 case atStart => exact ⟨_, n, [], none, 0, rfl, by omega, by simp, by simp, OwnI.nil _ _, z_y, q0, f_q0, q1, f_q1, q2, f_q2, y0, f_y0, y1, f_y1, y2, f_y2, Rw5, Xw5⟩
 case round =>
  clear q0 f_q0 q1 f_q1 q2 f_q2 y0 f_y0 y1 f_y1 y2 f_y2 Rw5 Xw5
  obtain ⟨q, m, xs, pv, cv, rfl, hm0, hmn, hq, OV, hzy, q0, f_q0, q1, f_q1, q2, f_q2, y0, f_y0, y1, f_y1, y2, f_y2, hr, X⟩ := hrel
  have s_wr := X.size
  have hx5 : xs.length ≤ 5 := by omega
  have z_q : w.heap.size < wr.heap.size := qB q0
  have z_y : gy < wr.heap.size := qB y0
  by_cases hn : 0 < m
  ·
   have hw1 : IntKind.i64.wrap (m - 1) = m - 1 := IntWalk.i64_in _ (by omega)
   go_wp2_with fail
   refine wp_region_tail (S := fun w' => w'.cell? ⟨gy, 0, none⟩ = some (.slice pv xs.length cv)) (fun i => decide (8 ≤ i)) qKr y0 (fun hHeld => ?_)
   refine qTk (v := ?_) 0 rfl (.inl ⟨by rfl, ?_⟩) ?_
   rotate_left
   ·
    (intro w hSw; (try dsimp only at hSw); go_simp; try with_reducible rfl)
   try simp only [Act.put, qa, qb, qc, qD, qE, qF]
   refine qTk (v := ?_) 1 rfl (.inl ⟨by rfl, ?_⟩) ?_
   rotate_left
   ·
    (intro w hSw; (try dsimp only at hSw); go_simp; try with_reducible rfl)
   try simp only [Act.put, qa, qb, qc, qD, qE, qF]
   refine qTk (v := ?_) 2 rfl (.inl ⟨by rfl, ?_⟩) ?_
   rotate_left
   ·
    (intro w hSw; (try dsimp only at hSw); go_simp; try with_reducible rfl)
   try simp only [Act.put, qa, qb, qc, qD, qE, qF]
   refine wpTail_one (i := 3) qKr rfl rfl (fun K hK => ?_)
   try simp only [Act.put, qa, qb, qc, qD, qE, qF]
   go_simp
   refine hK.out _ _ (Ext.cell (w := wr) qXt y0) (fun hHeld => ?_)
   clear hK K
   try simp only [Act.put, qa, qb, qc, qD, qE, qF]
   refine wpTail_one (i := 4) qKr rfl rfl (fun K hK => ?_)
   try simp only [Act.put, qa, qb, qc, qD, qE, qF]
   go_simp
   refine (oneLit_c #[.int .i64 1, .int .i64 2, .int .i64 4, .int .i64 1, .int .i64 2] 5 _ _ _ _ hr.drew (by omega) (by rfl) (by rfl) (by constructor <;> simp) (by first | rfl | omega | simp)).mono ?_
   rintro e w7 ⟨x, rfl, hx, Rw7, Cw7⟩
   have Ew7 : Ext wr (wr.drew.alloc (.cells #[.int .i64 1, .int .i64 2, .int .i64 4, .int .i64 1, .int .i64 2] 3)) := qXt
   have e_w7 := Ew7.size
   have zc_w7 := Cw7.size
   simp only [World.size_drew, World.size_alloc] at zc_w7
   have Xw7 : Rch rb w w7 := Rch.step (Rch.ext X Ew7) Cw7
   replace q0 := Cw7.cell (by omega) (Ew7.cell q0)
   replace f_q0 := Cw7.frzO (by omega) (by omega) (Ew7.frz z_q f_q0)
   replace q1 := Cw7.cell (by omega) (Ew7.cell q1)
   replace f_q1 := Cw7.frzO (by omega) (by omega) (Ew7.frz z_q f_q1)
   replace q2 := Cw7.cell (by omega) (Ew7.cell q2)
   replace f_q2 := Cw7.frzO (by omega) (by omega) (Ew7.frz z_q f_q2)
   replace y0 := Cw7.cell (by omega) (Ew7.cell y0)
   replace f_y0 := Cw7.frzO (by omega) (by omega) (Ew7.frz z_y f_y0)
   replace y1 := Cw7.cell (by omega) (Ew7.cell y1)
   replace f_y1 := Cw7.frzO (by omega) (by omega) (Ew7.frz z_y f_y1)
   replace y2 := Cw7.cell (by omega) (Ew7.cell y2)
   replace f_y2 := Cw7.frzO (by omega) (by omega) (Ew7.frz z_y f_y2)
   have z_q : w.heap.size < w7.heap.size := qB q0
   have z_y : gy < w7.heap.size := qB y0
   replace OV := (OV.ext Ew7).chg Cw7 (by omega)
   have s_w7 : w.heap.size ≤ w7.heap.size := Xw7.size
   clear hr Cw7 Ew7
   clear hx
   refine hK.out _ _ y0 (fun hHeld => ?_)
   clear hK K
   try simp only [Act.put, qa, qb, qc, qD, qE, qF]
   refine wpTail_one (i := 5) qKr rfl rfl (fun K hK => ?_)
   try simp only [Act.put, qa, qb, qc, qD, qE, qF]
   go_simp
   refine hK.out _ _ (Ext.cell (w := w7) qXt y0) (fun hHeld => ?_)
   clear hK K
   try simp only [Act.put, qa, qb, qc, qD, qE, qF]
   refine wpTail_one (i := 6) qKr rfl rfl (fun K hK => ?_)
   have Ew8 : Ext w7 ((w7).alloc (.cells #[.int .i64 (x)] 3)) := qXt
   have Sw8 : Ints ((w7).alloc (.cells #[.int .i64 (x)] 3)) 0 (.slice (some ⟨w7.heap.size, 0, none⟩) 1 1) [x] := by simpa using Ints.one w7 0 (x) (Nat.zero_le _)
   refine step_app rfl (.tmp 20) (.tmp 24) rfl rfl rfl (by exact OV.ext Ew8) (by exact Sw8) (by simp only [List.length_cons, List.length_nil]; omega) (by simp <;> omega) ?_
   intro vw8 w8 ho hgr hbl hvb
   clear hgr hvb
   obtain ⟨pw, cw, rfl⟩ : ∃ a c, vw8 = .slice a (xs.length + 1) c := by obtain ⟨a, c, h⟩ := (ho.ints (by simp; omega)).form; exact ⟨a, c, by rw [h]; simp⟩
   have Xw8 : Rch rb w w8 := Rch.below' (Xw7.ext Ew8) (Below.chg hbl) (by omega)
   replace q0 := below_cell hbl (by omega) (Ew8.cell q0)
   replace f_q0 := below_frz hbl (by omega) (Ew8.frz z_q f_q0)
   replace q1 := below_cell hbl (by omega) (Ew8.cell q1)
   replace f_q1 := below_frz hbl (by omega) (Ew8.frz z_q f_q1)
   replace q2 := below_cell hbl (by omega) (Ew8.cell q2)
   replace f_q2 := below_frz hbl (by omega) (Ew8.frz z_q f_q2)
   replace y0 := below_cell hbl (by omega) (Ew8.cell y0)
   replace f_y0 := below_frz hbl (by omega) (Ew8.frz z_y f_y0)
   replace y1 := below_cell hbl (by omega) (Ew8.cell y1)
   replace f_y1 := below_frz hbl (by omega) (Ew8.frz z_y f_y1)
   replace y2 := below_cell hbl (by omega) (Ew8.cell y2)
   replace f_y2 := below_frz hbl (by omega) (Ew8.frz z_y f_y2)
   have z_q : w.heap.size < w8.heap.size := qB q0
   have z_y : gy < w8.heap.size := qB y0
   replace Rw7 := (Rw7.ext Ew8).below hbl (by omega)
   clear OV
   have OV := ho
   clear ho hbl Ew8 Sw8
   have s_w8 : w.heap.size ≤ w8.heap.size := Xw8.size
   refine hK.out _ _ y0 (fun hHeld => ?_)
   clear hK K
   try simp only [Act.put, qa, qb, qc, qD, qE, qF]
   refine qTk (v := ?_) 7 rfl (.inl ⟨by rfl, ?_⟩) ?_
   rotate_left
   ·
    (intro w hSw; (try dsimp only at hSw); go_simp; try with_reducible rfl)
   try simp only [Act.put, qa, qb, qc, qD, qE, qF]
   refine wpTail_last (i := 8) qKr rfl rfl (fun K hK => ?_)
   try simp only [Act.put, qa, qb, qc, qD, qE, qF]
   go_simp
   refine hK.out _ _ ?_
   clear hK K
   try simp only [Act.put, qa, qb, qc, qD, qE, qF]
   refine wpTail_done qKr ?_ _
   clear hHeld
   generalize hW3 : (w8.setCell ⟨gy, 0, none⟩ (.slice pw (xs.length + 1) cw)) = w9 at *
   have Kw9 : Chg (gy) (gy + 1) w8 w9 := by subst hW3; exact qCh
   have Xw9 : Rch rb w w9 := by subst hW3; exact qRt
   replace Rw7 := (Rd.set2 (a := ⟨gy, 0, none⟩) (u := .slice pw (xs.length + 1) cw) (show rb < gy by omega) Rw7)
   rw [hW3] at Rw7
   replace q0 := Kw9.cell (by omega) q0
   replace f_q0 := Kw9.frzO (by omega) z_q f_q0
   replace q1 := Kw9.cell (by omega) q1
   replace f_q1 := Kw9.frzO (by omega) z_q f_q1
   replace q2 := Kw9.cell (by omega) q2
   replace f_q2 := Kw9.frzO (by omega) z_q f_q2
   replace y0 : w9.cell? ⟨gy, 0, none⟩ = some (.slice pw (xs.length + 1) cw) := by subst hW3; go_simp
   replace f_y0 : w9.frozen? ⟨gy, 0, none⟩ = false := by subst hW3; first | (simp only [World.frozen?_setCell]; with_reducible assumption) | go_simp
   replace y1 : w9.cell? ⟨gy, 1, none⟩ = some (.bool bg) := by subst hW3; go_simp
   replace f_y1 : w9.frozen? ⟨gy, 1, none⟩ = false := by subst hW3; first | (simp only [World.frozen?_setCell]; with_reducible assumption) | go_simp
   replace y2 : w9.cell? ⟨gy, 2, none⟩ = some (.bool al) := by subst hW3; go_simp
   replace f_y2 : w9.frozen? ⟨gy, 2, none⟩ = false := by subst hW3; first | (simp only [World.frozen?_setCell]; with_reducible assumption) | go_simp
   replace OV := OV.chg Kw9 (by omega)
   clear Kw9
   have z_q : w.heap.size < w9.heap.size := qB q0
   have z_y : gy < w9.heap.size := qB y0
   have s_w9 : w.heap.size ≤ w9.heap.size := Xw9.size
   clear hW3
   go_wp2_with fail
   go_roundw
   case rel => exact ⟨q + 1, m - 1, xs ++ [x], pw, cw, by first | rfl | go_num, by omega, by simp; omega, by simp; omega, (by simpa using OV), z_y, q0, f_q0, q1, f_q1, q2, f_q2, by simpa using y0, f_y0, y1, f_y1, y2, f_y2, Rw7, Xw9⟩
   case measure => simp [intOf]; omega
  ·
   have hxn : xs ≠ [] := by intro h; rw [h] at hmn; simp at hmn; omega
   obtain ⟨gv, nv, cv9, hvv, hnv, G1, G2⟩ := OV.row2 hxn
   injection hvv with h1 h2 h3
   subst h1
   clear h2 h3
   go_wp2_with fail
   refine (pick1_c 20 _ _ _ hr (by omega) (by omega)).mono ?_
   rintro e w7 ⟨y, rfl, hy, Rw7, Cw7⟩
   have zc_w7 := Cw7.size
   have Xw7 : Rch rb w w7 := Rch.step (X) Cw7
   replace q0 := Cw7.cell (by omega) q0
   replace f_q0 := Cw7.frzO (by omega) (by omega) f_q0
   replace q1 := Cw7.cell (by omega) q1
   replace f_q1 := Cw7.frzO (by omega) (by omega) f_q1
   replace q2 := Cw7.cell (by omega) q2
   replace f_q2 := Cw7.frzO (by omega) (by omega) f_q2
   replace y0 := Cw7.cell (by omega) y0
   replace f_y0 := Cw7.frzO (by omega) (by omega) f_y0
   replace y1 := Cw7.cell (by omega) y1
   replace f_y1 := Cw7.frzO (by omega) (by omega) f_y1
   replace y2 := Cw7.cell (by omega) y2
   replace f_y2 := Cw7.frzO (by omega) (by omega) f_y2
   have z_q : w.heap.size < w7.heap.size := qB q0
   have z_y : gy < w7.heap.size := qB y0
   replace OV := OV.chgN Cw7 (by omega)
   have s_w7 : w.heap.size ≤ w7.heap.size := Xw7.size
   clear hr Cw7
   clear hy
   by_cases y00 : y = 0
   ·
    subst y00
    go_wp2_with fail
    refine wp_region_tail (S := fun w' => w'.cell? ⟨gy, 0, none⟩ = some (.slice (some ⟨gv, 0, none⟩) xs.length cv)) (fun i => decide (6 ≤ i)) qKr y0 (fun hHeld => ?_)
    refine qTk (v := ?_) 0 rfl (.inl ⟨by rfl, ?_⟩) ?_
    rotate_left
    ·
     (intro w hSw; (try dsimp only at hSw); go_simp; try with_reducible rfl)
    try simp only [Act.put, qa, qb, qc, qD, qE, qF]
    refine qTk (v := ?_) 1 rfl (.inl ⟨by rfl, ?_⟩) ?_
    rotate_left
    ·
     (intro w hSw; (try dsimp only at hSw); go_simp; try with_reducible rfl)
    try simp only [Act.put, qa, qb, qc, qD, qE, qF]
    refine qTk (v := ?_) 2 rfl (.inl ⟨by rfl, ?_⟩) ?_
    rotate_left
    ·
     (intro w hSw; (try dsimp only at hSw); go_simp; try with_reducible rfl)
    try simp only [Act.put, qa, qb, qc, qD, qE, qF]
    refine wpTail_one (i := 3) qKr rfl rfl (fun K hK => ?_)
    try simp only [Act.put, qa, qb, qc, qD, qE, qF]
    go_simp
    refine hK.out _ _ (Ext.cell (w := w7) qXt y0) (fun hHeld => ?_)
    clear hK K
    try simp only [Act.put, qa, qb, qc, qD, qE, qF]
    refine wpTail_one (i := 4) qKr rfl rfl (fun K hK => ?_)
    try simp only [Act.put, qa, qb, qc, qD, qE, qF]
    go_simp
    refine (oneLit_c #[.int .i64 3, .int .i64 0, .int .i64 8] 3 _ _ _ _ Rw7.drew (by omega) (by rfl) (by rfl) (by constructor <;> simp) (by first | rfl | omega | simp)).mono ?_
    rintro e w8 ⟨x, rfl, hx, Rw8, Cw8⟩
    have Ew8 : Ext w7 (w7.drew.alloc (.cells #[.int .i64 3, .int .i64 0, .int .i64 8] 3)) := qXt
    have e_w8 := Ew8.size
    have zc_w8 := Cw8.size
    simp only [World.size_drew, World.size_alloc] at zc_w8
    have Xw8 : Rch rb w w8 := Rch.step (Rch.ext Xw7 Ew8) Cw8
    replace q0 := Cw8.cell (by omega) (Ew8.cell q0)
    replace f_q0 := Cw8.frzO (by omega) (by omega) (Ew8.frz z_q f_q0)
    replace q1 := Cw8.cell (by omega) (Ew8.cell q1)
    replace f_q1 := Cw8.frzO (by omega) (by omega) (Ew8.frz z_q f_q1)
    replace q2 := Cw8.cell (by omega) (Ew8.cell q2)
    replace f_q2 := Cw8.frzO (by omega) (by omega) (Ew8.frz z_q f_q2)
    replace y0 := Cw8.cell (by omega) (Ew8.cell y0)
    replace f_y0 := Cw8.frzO (by omega) (by omega) (Ew8.frz z_y f_y0)
    replace y1 := Cw8.cell (by omega) (Ew8.cell y1)
    replace f_y1 := Cw8.frzO (by omega) (by omega) (Ew8.frz z_y f_y1)
    replace y2 := Cw8.cell (by omega) (Ew8.cell y2)
    replace f_y2 := Cw8.frzO (by omega) (by omega) (Ew8.frz z_y f_y2)
    have z_q : w.heap.size < w8.heap.size := qB q0
    have z_y : gy < w8.heap.size := qB y0
    replace OV := (OV.ext Ew8).chgN Cw8 (by omega)
    have s_w8 : w.heap.size ≤ w8.heap.size := Xw8.size
    clear Rw7 Cw8 Ew8
    clear hx
    obtain ⟨am, af⟩ := OV.cell 0 (by have := List.length_pos_iff.2 hxn; omega)
    have hp9n : 0 < xs.length := List.length_pos_iff.2 hxn
    have hp9 : (0 : Int) < (xs.length : Int) := by have := List.length_pos_iff.2 hxn; omega
    refine hK.out _ _ y0 (fun hHeld => ?_)
    clear hK K
    try simp only [Act.put, qa, qb, qc, qD, qE, qF]
    refine qTk (v := ?_) 5 rfl (.inl ⟨by rfl, ?_⟩) ?_
    rotate_left
    ·
     (intro w hSw; (try dsimp only at hSw); go_simp; try with_reducible rfl)
    try simp only [Act.put, qa, qb, qc, qD, qE, qF]
    refine wpTail_last (i := 6) qKr rfl rfl (fun K hK => ?_)
    try simp only [Act.put, qa, qb, qc, qD, qE, qF]
    go_simp
    refine hK.out _ _ ?_
    clear hK K
    try simp only [Act.put, qa, qb, qc, qD, qE, qF]
    refine wpTail_done qKr ?_ _
    clear hHeld am af
    generalize hW4 : (w8.setCell ⟨gv, 0, none⟩ (.int .i64 x)) = w9 at *
    have Kw9 : Chg (gv) (gv + 1) w8 w9 := by subst hW4; exact qCh
    have Xw9 : Rch rb w w9 := by subst hW4; exact qRt
    replace Rw8 := (Rd.set2 (a := ⟨gv, 0, none⟩) (u := .int .i64 x) (show rb < gv by omega) Rw8)
    rw [hW4] at Rw8
    replace q0 := Kw9.cell (by omega) q0
    replace f_q0 := Kw9.frzO (by omega) z_q f_q0
    replace q1 := Kw9.cell (by omega) q1
    replace f_q1 := Kw9.frzO (by omega) z_q f_q1
    replace q2 := Kw9.cell (by omega) q2
    replace f_q2 := Kw9.frzO (by omega) z_q f_q2
    replace y0 := Kw9.cell (by omega) y0
    replace f_y0 := Kw9.frzO (by omega) z_y f_y0
    replace y1 := Kw9.cell (by omega) y1
    replace f_y1 := Kw9.frzO (by omega) z_y f_y1
    replace y2 := Kw9.cell (by omega) y2
    replace f_y2 := Kw9.frzO (by omega) z_y f_y2
    have n_OV := OV.set 0 (x) (by first | omega | (simp; omega) | (rw [putUp_len]; simp; omega) | (rw [addUp_len]; omega))
    rw [hW4] at n_OV
    replace OV := n_OV
    clear n_OV
    clear Kw9
    have z_q : w.heap.size < w9.heap.size := qB q0
    have z_y : gy < w9.heap.size := qB y0
    have s_w9 : w.heap.size ≤ w9.heap.size := Xw9.size
    clear hW4
    go_wp2_with fail
    generalize hW5 : (((w9.setCell ⟨w.heap.size, 0, none⟩ (.slice (some ⟨gv, 0, none⟩) xs.length cv)).setCell ⟨w.heap.size, 1, none⟩ (.bool bg)).setCell ⟨w.heap.size, 2, none⟩ (.bool al)) = w10 at *
    have Kw10 : Chg (w.heap.size) (w.heap.size + 1) w9 w10 := by subst hW5; exact qCh
    have Xw10 : Rch rb w w10 := by subst hW5; exact qRt
    replace Rw8 := (Rd.set2 (a := ⟨w.heap.size, 2, none⟩) (u := .bool al) (show rb < w.heap.size by omega) (Rd.set2 (a := ⟨w.heap.size, 1, none⟩) (u := .bool bg) (show rb < w.heap.size by omega) (Rd.set2 (a := ⟨w.heap.size, 0, none⟩) (u := .slice (some ⟨gv, 0, none⟩) xs.length cv) (show rb < w.heap.size by omega) Rw8)))
    rw [hW5] at Rw8
    replace q0 : w10.cell? ⟨w.heap.size, 0, none⟩ = some (.slice (some ⟨gv, 0, none⟩) xs.length cv) := by subst hW5; go_simp
    replace f_q0 : w10.frozen? ⟨w.heap.size, 0, none⟩ = false := by subst hW5; first | (simp only [World.frozen?_setCell]; with_reducible assumption) | go_simp
    replace q1 : w10.cell? ⟨w.heap.size, 1, none⟩ = some (.bool bg) := by subst hW5; go_simp
    replace f_q1 : w10.frozen? ⟨w.heap.size, 1, none⟩ = false := by subst hW5; first | (simp only [World.frozen?_setCell]; with_reducible assumption) | go_simp
    replace q2 : w10.cell? ⟨w.heap.size, 2, none⟩ = some (.bool al) := by subst hW5; go_simp
    replace f_q2 : w10.frozen? ⟨w.heap.size, 2, none⟩ = false := by subst hW5; first | (simp only [World.frozen?_setCell]; with_reducible assumption) | go_simp
    replace y0 := Kw10.cell (by omega) y0
    replace f_y0 := Kw10.frzO (by omega) z_y f_y0
    replace y1 := Kw10.cell (by omega) y1
    replace f_y1 := Kw10.frzO (by omega) z_y f_y1
    replace y2 := Kw10.cell (by omega) y2
    replace f_y2 := Kw10.frzO (by omega) z_y f_y2
    replace OV := OV.chgN Kw10 (by omega)
    clear Kw10
    have z_q : w.heap.size < w10.heap.size := qB q0
    have z_y : gy < w10.heap.size := qB y0
    have s_w10 : w.heap.size ≤ w10.heap.size := Xw10.size
    clear hW5
    refine bodyPost_ret (v := .agg #[.slice (some ⟨gv, 0, none⟩) xs.length cv, .bool bg, .bool al]) (by simp only [results, Try.results50]; go_simp) rfl ?_
    exact ⟨xs.set 0 x, bg, al, _, _, by rw [List.length_set], by rw [List.length_set]; exact (OV.ints (by simp; omega)).lower (by omega), (by first | omega | (simp; done) | (simp; omega)), Rw8.mono (by omega), Xw10⟩
   ·
    have z0 : (y == 0) = false := by simpa using y00
    by_cases y01 : y = 1
    ·
     subst y01
     clear y00
     clear OV
     go_wp2_with fail
     generalize hW6 : (w7.setCell ⟨gy, 0, none⟩ (.slice none 0 0)) = w8 at *
     have Kw8 : Chg (gy) (gy + 1) w7 w8 := by subst hW6; exact qCh
     have Xw8 : Rch rb w w8 := by subst hW6; exact qRt
     replace Rw7 := (Rd.set2 (a := ⟨gy, 0, none⟩) (u := .slice none 0 0) (show rb < gy by omega) Rw7)
     rw [hW6] at Rw7
     replace q0 := Kw8.cell (by omega) q0
     replace f_q0 := Kw8.frzO (by omega) z_q f_q0
     replace q1 := Kw8.cell (by omega) q1
     replace f_q1 := Kw8.frzO (by omega) z_q f_q1
     replace q2 := Kw8.cell (by omega) q2
     replace f_q2 := Kw8.frzO (by omega) z_q f_q2
     replace y0 : w8.cell? ⟨gy, 0, none⟩ = some (.slice none 0 0) := by subst hW6; go_simp
     replace f_y0 : w8.frozen? ⟨gy, 0, none⟩ = false := by subst hW6; first | (simp only [World.frozen?_setCell]; with_reducible assumption) | go_simp
     replace y1 : w8.cell? ⟨gy, 1, none⟩ = some (.bool bg) := by subst hW6; go_simp
     replace f_y1 : w8.frozen? ⟨gy, 1, none⟩ = false := by subst hW6; first | (simp only [World.frozen?_setCell]; with_reducible assumption) | go_simp
     replace y2 : w8.cell? ⟨gy, 2, none⟩ = some (.bool al) := by subst hW6; go_simp
     replace f_y2 : w8.frozen? ⟨gy, 2, none⟩ = false := by subst hW6; first | (simp only [World.frozen?_setCell]; with_reducible assumption) | go_simp
     clear Kw8
     have z_q : w.heap.size < w8.heap.size := qB q0
     have z_y : gy < w8.heap.size := qB y0
     have s_w8 : w.heap.size ≤ w8.heap.size := Xw8.size
     clear hW6
     go_wp2_with fail
     generalize hW7 : (((w8.setCell ⟨w.heap.size, 0, none⟩ (.slice none 0 0)).setCell ⟨w.heap.size, 1, none⟩ (.bool bg)).setCell ⟨w.heap.size, 2, none⟩ (.bool al)) = w9 at *
     have Kw9 : Chg (w.heap.size) (w.heap.size + 1) w8 w9 := by subst hW7; exact qCh
     have Xw9 : Rch rb w w9 := by subst hW7; exact qRt
     replace Rw7 := (Rd.set2 (a := ⟨w.heap.size, 2, none⟩) (u := .bool al) (show rb < w.heap.size by omega) (Rd.set2 (a := ⟨w.heap.size, 1, none⟩) (u := .bool bg) (show rb < w.heap.size by omega) (Rd.set2 (a := ⟨w.heap.size, 0, none⟩) (u := .slice none 0 0) (show rb < w.heap.size by omega) Rw7)))
     rw [hW7] at Rw7
     replace q0 : w9.cell? ⟨w.heap.size, 0, none⟩ = some (.slice none 0 0) := by subst hW7; go_simp
     replace f_q0 : w9.frozen? ⟨w.heap.size, 0, none⟩ = false := by subst hW7; first | (simp only [World.frozen?_setCell]; with_reducible assumption) | go_simp
     replace q1 : w9.cell? ⟨w.heap.size, 1, none⟩ = some (.bool bg) := by subst hW7; go_simp
     replace f_q1 : w9.frozen? ⟨w.heap.size, 1, none⟩ = false := by subst hW7; first | (simp only [World.frozen?_setCell]; with_reducible assumption) | go_simp
     replace q2 : w9.cell? ⟨w.heap.size, 2, none⟩ = some (.bool al) := by subst hW7; go_simp
     replace f_q2 : w9.frozen? ⟨w.heap.size, 2, none⟩ = false := by subst hW7; first | (simp only [World.frozen?_setCell]; with_reducible assumption) | go_simp
     replace y0 := Kw9.cell (by omega) y0
     replace f_y0 := Kw9.frzO (by omega) z_y f_y0
     replace y1 := Kw9.cell (by omega) y1
     replace f_y1 := Kw9.frzO (by omega) z_y f_y1
     replace y2 := Kw9.cell (by omega) y2
     replace f_y2 := Kw9.frzO (by omega) z_y f_y2
     clear Kw9
     have z_q : w.heap.size < w9.heap.size := qB q0
     have z_y : gy < w9.heap.size := qB y0
     have s_w9 : w.heap.size ≤ w9.heap.size := Xw9.size
     clear hW7
     refine bodyPost_ret (v := .agg #[.slice none 0 0, .bool bg, .bool al]) (by simp only [results, Try.results50]; go_simp) rfl ?_
     exact ⟨[], bg, al, _, _, rfl, Ints.nil _ _ _ _ (by simp) (fun _ => rfl), (by first | omega | (simp; done) | (simp; omega)), Rw7.mono (by omega), Xw9⟩
    ·
     have z1 : (y == 1) = false := by simpa using y01
     go_wp2_with fail
     generalize hW8 : (((w7.setCell ⟨w.heap.size, 0, none⟩ (.slice (some ⟨gv, 0, none⟩) xs.length cv)).setCell ⟨w.heap.size, 1, none⟩ (.bool bg)).setCell ⟨w.heap.size, 2, none⟩ (.bool al)) = w8 at *
     have Kw8 : Chg (w.heap.size) (w.heap.size + 1) w7 w8 := by subst hW8; exact qCh
     have Xw8 : Rch rb w w8 := by subst hW8; exact qRt
     replace Rw7 := (Rd.set2 (a := ⟨w.heap.size, 2, none⟩) (u := .bool al) (show rb < w.heap.size by omega) (Rd.set2 (a := ⟨w.heap.size, 1, none⟩) (u := .bool bg) (show rb < w.heap.size by omega) (Rd.set2 (a := ⟨w.heap.size, 0, none⟩) (u := .slice (some ⟨gv, 0, none⟩) xs.length cv) (show rb < w.heap.size by omega) Rw7)))
     rw [hW8] at Rw7
     replace q0 : w8.cell? ⟨w.heap.size, 0, none⟩ = some (.slice (some ⟨gv, 0, none⟩) xs.length cv) := by subst hW8; go_simp
     replace f_q0 : w8.frozen? ⟨w.heap.size, 0, none⟩ = false := by subst hW8; first | (simp only [World.frozen?_setCell]; with_reducible assumption) | go_simp
     replace q1 : w8.cell? ⟨w.heap.size, 1, none⟩ = some (.bool bg) := by subst hW8; go_simp
     replace f_q1 : w8.frozen? ⟨w.heap.size, 1, none⟩ = false := by subst hW8; first | (simp only [World.frozen?_setCell]; with_reducible assumption) | go_simp
     replace q2 : w8.cell? ⟨w.heap.size, 2, none⟩ = some (.bool al) := by subst hW8; go_simp
     replace f_q2 : w8.frozen? ⟨w.heap.size, 2, none⟩ = false := by subst hW8; first | (simp only [World.frozen?_setCell]; with_reducible assumption) | go_simp
     replace y0 := Kw8.cell (by omega) y0
     replace f_y0 := Kw8.frzO (by omega) z_y f_y0
     replace y1 := Kw8.cell (by omega) y1
     replace f_y1 := Kw8.frzO (by omega) z_y f_y1
     replace y2 := Kw8.cell (by omega) y2
     replace f_y2 := Kw8.frzO (by omega) z_y f_y2
     replace OV := OV.chgN Kw8 (by omega)
     clear Kw8
     have z_q : w.heap.size < w8.heap.size := qB q0
     have z_y : gy < w8.heap.size := qB y0
     have s_w8 : w.heap.size ≤ w8.heap.size := Xw8.size
     clear hW8
     refine bodyPost_ret (v := .agg #[.slice (some ⟨gv, 0, none⟩) xs.length cv, .bool bg, .bool al]) (by simp only [results, Try.results50]; go_simp) rfl ?_
     exact ⟨xs, bg, al, _, _, rfl, (OV.ints (by omega)).lower (by omega), (by first | omega | (simp; done) | (simp; omega)), Rw7.mono (by omega), Xw8⟩

end Go.Proofs.Ytpgkhjmboiepcaa

/- Walks: the arguments of FieldView are drawn. -/
namespace Go.Proofs.Ytpgkhjmboiepcaa
open Go.RowKit
set_option linter.unusedVariables false
set_option maxRecDepth 100000

/-- a format and two numbers are drawn -/
def PDFv (w : World) (e : Ending) (w' : World) : Prop := ∃ (xs : List Int) (big al : Bool) (p : Option Addr) (c : Nat) (k m : Int), e = .returned (.tuple #[.agg #[.slice p xs.length c, .bool big, .bool al], .int .i64 k, .int .i64 m]) ∧ Ints w' w.heap.size (.slice p xs.length c) xs ∧ xs.length ≤ 5 ∧ (-1 ≤ k ∧ k ≤ 6) ∧ (0 ≤ m ∧ m ≤ 20) ∧ Ext w w'
set_option maxHeartbeats 12800000 in
theorem drawFieldView_c (a : Option Addr) (n cap : Nat) (w : World) (hb : BysIn w a n cap) :
  Calls Try.prog 18 #[.slice a n cap] w (PDFv w) := by
 go_enter Try.func18, Try.ntmps18
 go_wp2_with fail
 refine (newReader_c a n cap _ (hb.ext qXt)).mono ?_
 rintro e w1 ⟨rfl, hr, x1⟩
 simp only [World.size_alloc] at hr
 have Lw1 : Ext w w1 := Ext.trans qXt x1
 have Xw1 : Ext w w1 := Lw1
 have q0 : w1.cell? ⟨w.heap.size, 0, none⟩ = some (.slice none 0 0) := x1.cell qCl
 have q1 : w1.cell? ⟨w.heap.size, 1, none⟩ = some (.bool false) := x1.cell qCl
 have q2 : w1.cell? ⟨w.heap.size, 2, none⟩ = some (.bool false) := x1.cell qCl
 have f_q0 : w1.frozen? ⟨w.heap.size, 0, none⟩ = false := x1.frz (by simp <;> omega) qFz
 have f_q1 : w1.frozen? ⟨w.heap.size, 1, none⟩ = false := x1.frz (by simp <;> omega) qFz
 have f_q2 : w1.frozen? ⟨w.heap.size, 2, none⟩ = false := x1.frz (by simp <;> omega) qFz
 have z_q : w.heap.size < w1.heap.size := qB q0
 have s_w1 : w.heap.size ≤ w1.heap.size := Xw1.size
 clear x1 hb
 have hrl := hr.lt
 go_wp2_with fail
 refine (someFormat_c _ 0 _ hr (by omega)).mono ?_
 rintro e w2 ⟨xs, big, al, p1, c1, rfl, iF, hx5, Rw2, Cw2⟩
 have zc_w2 := Cw2.size
 have Xw2 : Ext w w2 := Rch.toExt' Cw2 (by omega) (Xw1)
 replace q0 := Cw2.cell (by omega) q0
 replace f_q0 := Cw2.frzO (by omega) (by omega) f_q0
 replace q1 := Cw2.cell (by omega) q1
 replace f_q1 := Cw2.frzO (by omega) (by omega) f_q1
 replace q2 := Cw2.cell (by omega) q2
 replace f_q2 := Cw2.frzO (by omega) (by omega) f_q2
 have z_q : w.heap.size < w2.heap.size := qB q0
 have s_w2 : w.heap.size ≤ w2.heap.size := Xw2.size
 clear hr Cw2
 go_wp2_with fail
 generalize hW1 : w2.alloc (.cells #[.slice p1 xs.length c1, .bool big, .bool al] 42) = w3 at *
 have Lw3 : Ext w2 w3 := by subst hW1; exact qXt
 have Xw3 : Ext w w3 := Xw2.trans Lw3
 replace Rw2 := Rw2.ext Lw3
 replace q0 := Lw3.cell q0
 replace q1 := Lw3.cell q1
 replace q2 := Lw3.cell q2
 replace f_q0 := Lw3.frz z_q f_q0
 replace f_q1 := Lw3.frz z_q f_q1
 replace f_q2 := Lw3.frz z_q f_q2
 have y0 : w3.cell? ⟨w2.heap.size, 0, none⟩ = some (.slice p1 xs.length c1) := by subst hW1; exact qCl
 have y1 : w3.cell? ⟨w2.heap.size, 1, none⟩ = some (.bool big) := by subst hW1; exact qCl
 have y2 : w3.cell? ⟨w2.heap.size, 2, none⟩ = some (.bool al) := by subst hW1; exact qCl
 have z_q : w.heap.size < w3.heap.size := qB q0
 have z_y : w2.heap.size < w3.heap.size := qB y0
 replace iF := iF.ext Lw3
 have s_w3 : w.heap.size ≤ w3.heap.size := Xw3.size
 clear hW1
 have hgy : w.heap.size + 1 < w2.heap.size := by omega
 generalize w2.heap.size = gy at *
 have z_q : w.heap.size < w3.heap.size := qB q0
 have z_y : gy < w3.heap.size := qB y0
 have hwl : IntKind.i64.wrap ((xs.length : Int) + 1) = (xs.length : Int) + 1 := IntWalk.i64_in _ (by omega)
 go_wp2_with fail
 refine wp_region_held_drew (S := fun w' => w'.cell? ⟨gy, 0, none⟩ = some (.slice p1 xs.length c1) ∧ w'.cell? ⟨gy, 1, none⟩ = some (.bool big) ∧ w'.cell? ⟨gy, 2, none⟩ = some (.bool al)) qKr ⟨y0, y1, y2⟩ (fun hHeld => ?_)
 refine qHk (v := ?_) 0 rfl (.inl ⟨by rfl, ?_⟩) ?_
 rotate_left
 ·
  (intro w hSw; (try dsimp only at hSw); go_simp; try with_reducible rfl)
 try simp only [Act.put, qa, qb, qc, qD, qE, qF]
 refine qHk (v := ?_) 1 rfl (.inl ⟨by rfl, ?_⟩) ?_
 rotate_left
 ·
  (intro w hSw; (try dsimp only at hSw); go_simp; try with_reducible rfl)
 try simp only [Act.put, qa, qb, qc, qD, qE, qF]
 refine qHk (v := ?_) 2 rfl (.inl ⟨by rfl, ?_⟩) ?_
 rotate_left
 ·
  (intro w hSw; (try dsimp only at hSw); go_simp; try with_reducible rfl)
 try simp only [Act.put, qa, qb, qc, qD, qE, qF]
 refine qHk (v := ?_) 3 rfl (.inl ⟨by rfl, ?_⟩) ?_
 rotate_left
 ·
  (intro w hSw; (try dsimp only at hSw); go_simp; try with_reducible rfl)
 try simp only [Act.put, qa, qb, qc, qD, qE, qF]
 refine qHk (v := ?_) 4 rfl (.inl ⟨by rfl, ?_⟩) ?_
 rotate_left
 ·
  (intro w hSw; (try dsimp only at hSw); go_simp; try with_reducible rfl)
 try simp only [Act.put, qa, qb, qc, qD, qE, qF]
 refine qHk (v := ?_) 5 rfl (.inl ⟨by rfl, ?_⟩) ?_
 rotate_left
 ·
  (intro w hSw; (try dsimp only at hSw); go_simp; try with_reducible rfl)
 try simp only [Act.put, qa, qb, qc, qD, qE, qF]
 refine qHk (v := ?_) 6 rfl (.inl ⟨by rfl, ?_⟩) ?_
 rotate_left
 ·
  (intro w hSw; (try dsimp only at hSw); go_simp; try with_reducible rfl)
 try simp only [Act.put, qa, qb, qc, qD, qE, qF]
 refine qHk (v := ?_) 10 rfl (.inl ⟨by rfl, ?_⟩) ?_
 rotate_left
 ·
  (intro w hSw; (try dsimp only at hSw); go_simp; try with_reducible rfl)
 try simp only [Act.put, qa, qb, qc, qD, qE, qF]
 refine wpAnyH_ready (rs := [7, 11]) qKr (by simp) ?_
 refine AllReadyH.cons rfl (fun K hK => ?_) (AllReadyH.cons rfl (fun K hK => ?_) AllReadyH.nil)
 ·
  try simp only [Act.put, qa, qb, qc, qD, qE, qF]
  go_simp
  refine (pick1_c ((xs.length : Int) + 1) _ _ _ Rw2.drew (by omega) (by omega)).mono ?_
  rintro e w4 ⟨t, rfl, ht, Rw4, Cw4⟩
  have Ew4 : Ext w3 (w3.drew) := qXt
  have e_w4 := Ew4.size
  have zc_w4 := Cw4.size
  simp only [World.size_drew, World.size_alloc] at zc_w4
  have Xw4 : Ext w w4 := Rch.toExt' Cw4 (by omega) (Xw3.trans Ew4)
  replace q0 := Cw4.cell (by omega) (Ew4.cell q0)
  replace f_q0 := Cw4.frzO (by omega) (by omega) (Ew4.frz z_q f_q0)
  replace q1 := Cw4.cell (by omega) (Ew4.cell q1)
  replace f_q1 := Cw4.frzO (by omega) (by omega) (Ew4.frz z_q f_q1)
  replace q2 := Cw4.cell (by omega) (Ew4.cell q2)
  replace f_q2 := Cw4.frzO (by omega) (by omega) (Ew4.frz z_q f_q2)
  replace y0 := Cw4.cell (by omega) (Ew4.cell y0)
  replace y1 := Cw4.cell (by omega) (Ew4.cell y1)
  replace y2 := Cw4.cell (by omega) (Ew4.cell y2)
  have z_q : w.heap.size < w4.heap.size := qB q0
  have z_y : gy < w4.heap.size := qB y0
  replace iF := (iF.ext Ew4).chg Cw4 (by omega)
  have s_w4 : w.heap.size ≤ w4.heap.size := Xw4.size
  clear Rw2 Cw4 Ew4
  refine hK.out _ _ ⟨y0, y1, y2⟩ (fun hHeld => ?_)
  clear hK K
  try simp only [Act.put, qa, qb, qc, qD, qE, qF]
  refine wpAnyH_ready (rs := [8, 11]) qKr (by simp) ?_
  refine AllReadyH.cons rfl (fun K hK => ?_) (AllReadyH.cons rfl (fun K hK => ?_) AllReadyH.nil)
  ·
   try simp only [Act.put, qa, qb, qc, qD, qE, qF]
   go_simp
   refine hK.out _ (w4.alloc (.cells #[.int .i64 0, .int .i64 1, .int .i64 t, .int .i64 (-1)] 3)) ⟨(show Ext w4 (w4.alloc (.cells #[.int .i64 0, .int .i64 1, .int .i64 t, .int .i64 (-1)] 3)) from qXt).cell y0, (show Ext w4 (w4.alloc (.cells #[.int .i64 0, .int .i64 1, .int .i64 t, .int .i64 (-1)] 3)) from qXt).cell y1, (show Ext w4 (w4.alloc (.cells #[.int .i64 0, .int .i64 1, .int .i64 t, .int .i64 (-1)] 3)) from qXt).cell y2⟩ (fun hHeld => ?_)
   clear hK K
   try simp only [Act.put, qa, qb, qc, qD, qE, qF]
   generalize hW2 : w4.alloc (.cells #[.int .i64 0, .int .i64 1, .int .i64 t, .int .i64 (-1)] 3) = w5 at *
   have iA : Ints w5 w4.heap.size (.slice (some ⟨w4.heap.size, 0, none⟩) 4 4) [0, 1, t, (-1)] := by subst hW2; exact Ints.litB (w := w4) (cs := #[.int .i64 0, .int .i64 1, .int .i64 t, .int .i64 (-1)]) (n := 4) rfl rfl (by show 4 ≤ 100; omega) rfl
   have hl_iA : gy < w4.heap.size := by omega
   have Lw5 : Ext w4 w5 := by subst hW2; exact qXt
   have Xw5 : Ext w w5 := Xw4.trans Lw5
   replace Rw4 := Rw4.ext Lw5
   replace q0 := Lw5.cell q0
   replace q1 := Lw5.cell q1
   replace q2 := Lw5.cell q2
   replace f_q0 := Lw5.frz z_q f_q0
   replace f_q1 := Lw5.frz z_q f_q1
   replace f_q2 := Lw5.frz z_q f_q2
   replace y0 := Lw5.cell y0
   replace y1 := Lw5.cell y1
   replace y2 := Lw5.cell y2
   have z_q : w.heap.size < w5.heap.size := qB q0
   have z_y : gy < w5.heap.size := qB y0
   replace iF := iF.ext Lw5
   have s_w5 : w.heap.size ≤ w5.heap.size := Xw5.size
   clear hW2
   refine wpAnyH_ready (rs := [9, 11]) qKr (by simp) ?_
   refine AllReadyH.cons rfl (fun K hK => ?_) (AllReadyH.cons rfl (fun K hK => ?_) AllReadyH.nil)
   ·
    try simp only [Act.put, qa, qb, qc, qD, qE, qF]
    go_simp
    refine (one_c [0, 1, t, -1] _ _ _ _ _ Rw4 (by omega) iA (by omega) (by simp)).mono ?_
    rintro e w6 ⟨ka, rfl, hka, Rw6, Cw6⟩
    have zc_w6 := Cw6.size
    have Xw6 : Ext w w6 := Rch.toExt' Cw6 (by omega) (Xw5)
    replace q0 := Cw6.cell (by omega) q0
    replace f_q0 := Cw6.frzO (by omega) (by omega) f_q0
    replace q1 := Cw6.cell (by omega) q1
    replace f_q1 := Cw6.frzO (by omega) (by omega) f_q1
    replace q2 := Cw6.cell (by omega) q2
    replace f_q2 := Cw6.frzO (by omega) (by omega) f_q2
    replace y0 := Cw6.cell (by omega) y0
    replace y1 := Cw6.cell (by omega) y1
    replace y2 := Cw6.cell (by omega) y2
    have z_q : w.heap.size < w6.heap.size := qB q0
    have z_y : gy < w6.heap.size := qB y0
    replace iF := iF.chg Cw6 (by omega)
    replace iA := iA.chg Cw6 (by omega)
    have s_w6 : w.heap.size ≤ w6.heap.size := Xw6.size
    clear Rw4 Cw6
    replace hka : -1 ≤ ka ∧ ka ≤ 6 := by have h7 : ka ∈ [0, 1, t, -1] := hka; simp at h7; omega
    refine hK.out _ _ ⟨y0, y1, y2⟩ (fun hHeld => ?_)
    clear hK K
    try simp only [Act.put, qa, qb, qc, qD, qE, qF]
    refine qHr 11 rfl (fun K hK => ?_)
    try simp only [Act.put, qa, qb, qc, qD, qE, qF]
    go_simp
    refine hK.out _ (w6.alloc (.cells #[.int .i64 2, .int .i64 3, .int .i64 1, .int .i64 0, .int .i64 20] 3)) ⟨(show Ext w6 (w6.alloc (.cells #[.int .i64 2, .int .i64 3, .int .i64 1, .int .i64 0, .int .i64 20] 3)) from qXt).cell y0, (show Ext w6 (w6.alloc (.cells #[.int .i64 2, .int .i64 3, .int .i64 1, .int .i64 0, .int .i64 20] 3)) from qXt).cell y1, (show Ext w6 (w6.alloc (.cells #[.int .i64 2, .int .i64 3, .int .i64 1, .int .i64 0, .int .i64 20] 3)) from qXt).cell y2⟩ (fun hHeld => ?_)
    clear hK K
    try simp only [Act.put, qa, qb, qc, qD, qE, qF]
    generalize hW3 : w6.alloc (.cells #[.int .i64 2, .int .i64 3, .int .i64 1, .int .i64 0, .int .i64 20] 3) = w7 at *
    have iB : Ints w7 w6.heap.size (.slice (some ⟨w6.heap.size, 0, none⟩) 5 5) [2, 3, 1, 0, 20] := by subst hW3; exact Ints.litB (w := w6) (cs := #[.int .i64 2, .int .i64 3, .int .i64 1, .int .i64 0, .int .i64 20]) (n := 5) rfl rfl (by show 5 ≤ 100; omega) rfl
    have hl_iB : gy < w6.heap.size := by omega
    have Lw7 : Ext w6 w7 := by subst hW3; exact qXt
    have Xw7 : Ext w w7 := Xw6.trans Lw7
    replace Rw6 := Rw6.ext Lw7
    replace q0 := Lw7.cell q0
    replace q1 := Lw7.cell q1
    replace q2 := Lw7.cell q2
    replace f_q0 := Lw7.frz z_q f_q0
    replace f_q1 := Lw7.frz z_q f_q1
    replace f_q2 := Lw7.frz z_q f_q2
    replace y0 := Lw7.cell y0
    replace y1 := Lw7.cell y1
    replace y2 := Lw7.cell y2
    have z_q : w.heap.size < w7.heap.size := qB q0
    have z_y : gy < w7.heap.size := qB y0
    replace iF := iF.ext Lw7
    replace iA := iA.ext Lw7
    have s_w7 : w.heap.size ≤ w7.heap.size := Xw7.size
    clear hW3
    refine qHr 12 rfl (fun K hK => ?_)
    try simp only [Act.put, qa, qb, qc, qD, qE, qF]
    go_simp
    refine (one_c [2, 3, 1, 0, 20] _ _ _ _ _ Rw6 (by omega) iB (by omega) (by simp)).mono ?_
    rintro e w8 ⟨mb, rfl, hmb, Rw8, Cw8⟩
    have zc_w8 := Cw8.size
    have Xw8 : Ext w w8 := Rch.toExt' Cw8 (by omega) (Xw7)
    replace q0 := Cw8.cell (by omega) q0
    replace f_q0 := Cw8.frzO (by omega) (by omega) f_q0
    replace q1 := Cw8.cell (by omega) q1
    replace f_q1 := Cw8.frzO (by omega) (by omega) f_q1
    replace q2 := Cw8.cell (by omega) q2
    replace f_q2 := Cw8.frzO (by omega) (by omega) f_q2
    replace y0 := Cw8.cell (by omega) y0
    replace y1 := Cw8.cell (by omega) y1
    replace y2 := Cw8.cell (by omega) y2
    have z_q : w.heap.size < w8.heap.size := qB q0
    have z_y : gy < w8.heap.size := qB y0
    replace iF := iF.chg Cw8 (by omega)
    replace iA := iA.chg Cw8 (by omega)
    replace iB := iB.chg Cw8 (by omega)
    have s_w8 : w.heap.size ≤ w8.heap.size := Xw8.size
    clear Rw6 Cw8
    replace hmb : 0 ≤ mb ∧ mb ≤ 20 := by have h7 : mb ∈ [2, 3, 1, 0, 20] := hmb; simp at h7; omega
    refine hK.out _ _ ⟨y0, y1, y2⟩ (fun hHeld => ?_)
    clear hK K
    try simp only [Act.put, qa, qb, qc, qD, qE, qF]
    refine qHr 13 rfl (fun K hK => ?_)
    try simp only [Act.put, qa, qb, qc, qD, qE, qF]
    go_simp
    have KS : Chg (w.heap.size) (w.heap.size + 1) w8 (((w8.setCell ⟨w.heap.size, 0, none⟩ (.slice p1 xs.length c1)).setCell ⟨w.heap.size, 1, none⟩ (.bool big)).setCell ⟨w.heap.size, 2, none⟩ (.bool al)) := (Chg.setCell (p := ⟨w.heap.size, 2, none⟩) (Chg.setCell (p := ⟨w.heap.size, 1, none⟩) (Chg.setCell (p := ⟨w.heap.size, 0, none⟩) (Chg.refl _ _ _) (Nat.le_refl _) (Nat.lt_succ_self _) _) (Nat.le_refl _) (Nat.lt_succ_self _) _) (Nat.le_refl _) (Nat.lt_succ_self _) _)
    refine hK.out _ (((w8.setCell ⟨w.heap.size, 0, none⟩ (.slice p1 xs.length c1)).setCell ⟨w.heap.size, 1, none⟩ (.bool big)).setCell ⟨w.heap.size, 2, none⟩ (.bool al)) ⟨(KS.cell (by omega) y0), (KS.cell (by omega) y1), (KS.cell (by omega) y2)⟩ (fun hHeld => ?_)
    clear hK K KS
    try simp only [Act.put, qa, qb, qc, qD, qE, qF]
    generalize hW4 : (((w8.setCell ⟨w.heap.size, 0, none⟩ (.slice p1 xs.length c1)).setCell ⟨w.heap.size, 1, none⟩ (.bool big)).setCell ⟨w.heap.size, 2, none⟩ (.bool al)) = w9 at *
    have Kw9 : Chg (w.heap.size) (w.heap.size + 1) w8 w9 := by subst hW4; exact qCh
    have Xw9 : Ext w w9 := by subst hW4; exact qXt
    replace q0 : w9.cell? ⟨w.heap.size, 0, none⟩ = some (.slice p1 xs.length c1) := by subst hW4; go_simp
    replace f_q0 : w9.frozen? ⟨w.heap.size, 0, none⟩ = false := by subst hW4; first | (simp only [World.frozen?_setCell]; with_reducible assumption) | go_simp
    replace q1 : w9.cell? ⟨w.heap.size, 1, none⟩ = some (.bool big) := by subst hW4; go_simp
    replace f_q1 : w9.frozen? ⟨w.heap.size, 1, none⟩ = false := by subst hW4; first | (simp only [World.frozen?_setCell]; with_reducible assumption) | go_simp
    replace q2 : w9.cell? ⟨w.heap.size, 2, none⟩ = some (.bool al) := by subst hW4; go_simp
    replace f_q2 : w9.frozen? ⟨w.heap.size, 2, none⟩ = false := by subst hW4; first | (simp only [World.frozen?_setCell]; with_reducible assumption) | go_simp
    replace y0 := Kw9.cell (by omega) y0
    replace y1 := Kw9.cell (by omega) y1
    replace y2 := Kw9.cell (by omega) y2
    replace iF := iF.chg Kw9 (by omega)
    replace iA := iA.chg Kw9 (by omega)
    replace iB := iB.chg Kw9 (by omega)
    clear Kw9
    have z_q : w.heap.size < w9.heap.size := qB q0
    have z_y : gy < w9.heap.size := qB y0
    have s_w9 : w.heap.size ≤ w9.heap.size := Xw9.size
    clear hW4
    refine qHk (v := ?_) 14 rfl (.inl ⟨by rfl, ?_⟩) ?_
    rotate_left
    ·
     (intro w hSw; (try dsimp only at hSw); go_simp; try with_reducible rfl)
    try simp only [Act.put, qa, qb, qc, qD, qE, qF]
    refine qHk (v := ?_) 15 rfl (.inl ⟨by rfl, ?_⟩) ?_
    rotate_left
    ·
     (intro w hSw; (try dsimp only at hSw); go_simp; try with_reducible rfl)
    try simp only [Act.put, qa, qb, qc, qD, qE, qF]
    refine wpAnyH_done qKr ?_ _
    clear hHeld
    go_wp2_with fail
    refine bodyPost_ret (v := .tuple #[.agg #[.slice p1 xs.length c1, .bool big, .bool al], .int .i64 ka, .int .i64 mb]) (by simp only [results, Try.results18]; go_simp) rfl ?_
    exact ⟨xs, big, al, _, _, ka, mb, rfl, iF.lower (by omega), hx5, hka, hmb, Xw9⟩
   ·
    try simp only [Act.put, qa, qb, qc, qD, qE, qF]
    go_simp
    refine hK.out _ (w5.alloc (.cells #[.int .i64 2, .int .i64 3, .int .i64 1, .int .i64 0, .int .i64 20] 3)) ⟨(show Ext w5 (w5.alloc (.cells #[.int .i64 2, .int .i64 3, .int .i64 1, .int .i64 0, .int .i64 20] 3)) from qXt).cell y0, (show Ext w5 (w5.alloc (.cells #[.int .i64 2, .int .i64 3, .int .i64 1, .int .i64 0, .int .i64 20] 3)) from qXt).cell y1, (show Ext w5 (w5.alloc (.cells #[.int .i64 2, .int .i64 3, .int .i64 1, .int .i64 0, .int .i64 20] 3)) from qXt).cell y2⟩ (fun hHeld => ?_)
    clear hK K
    try simp only [Act.put, qa, qb, qc, qD, qE, qF]
    generalize hW5 : w5.alloc (.cells #[.int .i64 2, .int .i64 3, .int .i64 1, .int .i64 0, .int .i64 20] 3) = w6 at *
    have iB : Ints w6 w5.heap.size (.slice (some ⟨w5.heap.size, 0, none⟩) 5 5) [2, 3, 1, 0, 20] := by subst hW5; exact Ints.litB (w := w5) (cs := #[.int .i64 2, .int .i64 3, .int .i64 1, .int .i64 0, .int .i64 20]) (n := 5) rfl rfl (by show 5 ≤ 100; omega) rfl
    have hl_iB : gy < w5.heap.size := by omega
    have Lw6 : Ext w5 w6 := by subst hW5; exact qXt
    have Xw6 : Ext w w6 := Xw5.trans Lw6
    replace Rw4 := Rw4.ext Lw6
    replace q0 := Lw6.cell q0
    replace q1 := Lw6.cell q1
    replace q2 := Lw6.cell q2
    replace f_q0 := Lw6.frz z_q f_q0
    replace f_q1 := Lw6.frz z_q f_q1
    replace f_q2 := Lw6.frz z_q f_q2
    replace y0 := Lw6.cell y0
    replace y1 := Lw6.cell y1
    replace y2 := Lw6.cell y2
    have z_q : w.heap.size < w6.heap.size := qB q0
    have z_y : gy < w6.heap.size := qB y0
    replace iF := iF.ext Lw6
    replace iA := iA.ext Lw6
    have s_w6 : w.heap.size ≤ w6.heap.size := Xw6.size
    clear hW5
    refine qHr 9 rfl (fun K hK => ?_)
    try simp only [Act.put, qa, qb, qc, qD, qE, qF]
    go_simp
    refine (one_c [0, 1, t, -1] _ _ _ _ _ Rw4 (by omega) iA (by omega) (by simp)).mono ?_
    rintro e w7 ⟨ka, rfl, hka, Rw7, Cw7⟩
    have zc_w7 := Cw7.size
    have Xw7 : Ext w w7 := Rch.toExt' Cw7 (by omega) (Xw6)
    replace q0 := Cw7.cell (by omega) q0
    replace f_q0 := Cw7.frzO (by omega) (by omega) f_q0
    replace q1 := Cw7.cell (by omega) q1
    replace f_q1 := Cw7.frzO (by omega) (by omega) f_q1
    replace q2 := Cw7.cell (by omega) q2
    replace f_q2 := Cw7.frzO (by omega) (by omega) f_q2
    replace y0 := Cw7.cell (by omega) y0
    replace y1 := Cw7.cell (by omega) y1
    replace y2 := Cw7.cell (by omega) y2
    have z_q : w.heap.size < w7.heap.size := qB q0
    have z_y : gy < w7.heap.size := qB y0
    replace iF := iF.chg Cw7 (by omega)
    replace iA := iA.chg Cw7 (by omega)
    replace iB := iB.chg Cw7 (by omega)
    have s_w7 : w.heap.size ≤ w7.heap.size := Xw7.size
    clear Rw4 Cw7
    replace hka : -1 ≤ ka ∧ ka ≤ 6 := by have h7 : ka ∈ [0, 1, t, -1] := hka; simp at h7; omega
    refine hK.out _ _ ⟨y0, y1, y2⟩ (fun hHeld => ?_)
    clear hK K
    try simp only [Act.put, qa, qb, qc, qD, qE, qF]
    refine qHr 12 rfl (fun K hK => ?_)
    try simp only [Act.put, qa, qb, qc, qD, qE, qF]
    go_simp
    refine (one_c [2, 3, 1, 0, 20] _ _ _ _ _ Rw7 (by omega) iB (by omega) (by simp)).mono ?_
    rintro e w8 ⟨mb, rfl, hmb, Rw8, Cw8⟩
    have zc_w8 := Cw8.size
    have Xw8 : Ext w w8 := Rch.toExt' Cw8 (by omega) (Xw7)
    replace q0 := Cw8.cell (by omega) q0
    replace f_q0 := Cw8.frzO (by omega) (by omega) f_q0
    replace q1 := Cw8.cell (by omega) q1
    replace f_q1 := Cw8.frzO (by omega) (by omega) f_q1
    replace q2 := Cw8.cell (by omega) q2
    replace f_q2 := Cw8.frzO (by omega) (by omega) f_q2
    replace y0 := Cw8.cell (by omega) y0
    replace y1 := Cw8.cell (by omega) y1
    replace y2 := Cw8.cell (by omega) y2
    have z_q : w.heap.size < w8.heap.size := qB q0
    have z_y : gy < w8.heap.size := qB y0
    replace iF := iF.chg Cw8 (by omega)
    replace iA := iA.chg Cw8 (by omega)
    replace iB := iB.chg Cw8 (by omega)
    have s_w8 : w.heap.size ≤ w8.heap.size := Xw8.size
    clear Rw7 Cw8
    replace hmb : 0 ≤ mb ∧ mb ≤ 20 := by have h7 : mb ∈ [2, 3, 1, 0, 20] := hmb; simp at h7; omega
    refine hK.out _ _ ⟨y0, y1, y2⟩ (fun hHeld => ?_)
    clear hK K
    try simp only [Act.put, qa, qb, qc, qD, qE, qF]
    refine qHr 13 rfl (fun K hK => ?_)
    try simp only [Act.put, qa, qb, qc, qD, qE, qF]
    go_simp
    have KS : Chg (w.heap.size) (w.heap.size + 1) w8 (((w8.setCell ⟨w.heap.size, 0, none⟩ (.slice p1 xs.length c1)).setCell ⟨w.heap.size, 1, none⟩ (.bool big)).setCell ⟨w.heap.size, 2, none⟩ (.bool al)) := (Chg.setCell (p := ⟨w.heap.size, 2, none⟩) (Chg.setCell (p := ⟨w.heap.size, 1, none⟩) (Chg.setCell (p := ⟨w.heap.size, 0, none⟩) (Chg.refl _ _ _) (Nat.le_refl _) (Nat.lt_succ_self _) _) (Nat.le_refl _) (Nat.lt_succ_self _) _) (Nat.le_refl _) (Nat.lt_succ_self _) _)
    refine hK.out _ (((w8.setCell ⟨w.heap.size, 0, none⟩ (.slice p1 xs.length c1)).setCell ⟨w.heap.size, 1, none⟩ (.bool big)).setCell ⟨w.heap.size, 2, none⟩ (.bool al)) ⟨(KS.cell (by omega) y0), (KS.cell (by omega) y1), (KS.cell (by omega) y2)⟩ (fun hHeld => ?_)
    clear hK K KS
    try simp only [Act.put, qa, qb, qc, qD, qE, qF]
    generalize hW6 : (((w8.setCell ⟨w.heap.size, 0, none⟩ (.slice p1 xs.length c1)).setCell ⟨w.heap.size, 1, none⟩ (.bool big)).setCell ⟨w.heap.size, 2, none⟩ (.bool al)) = w9 at *
    have Kw9 : Chg (w.heap.size) (w.heap.size + 1) w8 w9 := by subst hW6; exact qCh
    have Xw9 : Ext w w9 := by subst hW6; exact qXt
    replace q0 : w9.cell? ⟨w.heap.size, 0, none⟩ = some (.slice p1 xs.length c1) := by subst hW6; go_simp
    replace f_q0 : w9.frozen? ⟨w.heap.size, 0, none⟩ = false := by subst hW6; first | (simp only [World.frozen?_setCell]; with_reducible assumption) | go_simp
    replace q1 : w9.cell? ⟨w.heap.size, 1, none⟩ = some (.bool big) := by subst hW6; go_simp
    replace f_q1 : w9.frozen? ⟨w.heap.size, 1, none⟩ = false := by subst hW6; first | (simp only [World.frozen?_setCell]; with_reducible assumption) | go_simp
    replace q2 : w9.cell? ⟨w.heap.size, 2, none⟩ = some (.bool al) := by subst hW6; go_simp
    replace f_q2 : w9.frozen? ⟨w.heap.size, 2, none⟩ = false := by subst hW6; first | (simp only [World.frozen?_setCell]; with_reducible assumption) | go_simp
    replace y0 := Kw9.cell (by omega) y0
    replace y1 := Kw9.cell (by omega) y1
    replace y2 := Kw9.cell (by omega) y2
    replace iF := iF.chg Kw9 (by omega)
    replace iA := iA.chg Kw9 (by omega)
    replace iB := iB.chg Kw9 (by omega)
    clear Kw9
    have z_q : w.heap.size < w9.heap.size := qB q0
    have z_y : gy < w9.heap.size := qB y0
    have s_w9 : w.heap.size ≤ w9.heap.size := Xw9.size
    clear hW6
    refine qHk (v := ?_) 14 rfl (.inl ⟨by rfl, ?_⟩) ?_
    rotate_left
    ·
     (intro w hSw; (try dsimp only at hSw); go_simp; try with_reducible rfl)
    try simp only [Act.put, qa, qb, qc, qD, qE, qF]
    refine qHk (v := ?_) 15 rfl (.inl ⟨by rfl, ?_⟩) ?_
    rotate_left
    ·
     (intro w hSw; (try dsimp only at hSw); go_simp; try with_reducible rfl)
    try simp only [Act.put, qa, qb, qc, qD, qE, qF]
    refine wpAnyH_done qKr ?_ _
    clear hHeld
    go_wp2_with fail
    refine bodyPost_ret (v := .tuple #[.agg #[.slice p1 xs.length c1, .bool big, .bool al], .int .i64 ka, .int .i64 mb]) (by simp only [results, Try.results18]; go_simp) rfl ?_
    exact ⟨xs, big, al, _, _, ka, mb, rfl, iF.lower (by omega), hx5, hka, hmb, Xw9⟩
  ·
   try simp only [Act.put, qa, qb, qc, qD, qE, qF]
   go_simp
   refine hK.out _ (w4.alloc (.cells #[.int .i64 2, .int .i64 3, .int .i64 1, .int .i64 0, .int .i64 20] 3)) ⟨(show Ext w4 (w4.alloc (.cells #[.int .i64 2, .int .i64 3, .int .i64 1, .int .i64 0, .int .i64 20] 3)) from qXt).cell y0, (show Ext w4 (w4.alloc (.cells #[.int .i64 2, .int .i64 3, .int .i64 1, .int .i64 0, .int .i64 20] 3)) from qXt).cell y1, (show Ext w4 (w4.alloc (.cells #[.int .i64 2, .int .i64 3, .int .i64 1, .int .i64 0, .int .i64 20] 3)) from qXt).cell y2⟩ (fun hHeld => ?_)
   clear hK K
   try simp only [Act.put, qa, qb, qc, qD, qE, qF]
   generalize hW7 : w4.alloc (.cells #[.int .i64 2, .int .i64 3, .int .i64 1, .int .i64 0, .int .i64 20] 3) = w5 at *
   have iB : Ints w5 w4.heap.size (.slice (some ⟨w4.heap.size, 0, none⟩) 5 5) [2, 3, 1, 0, 20] := by subst hW7; exact Ints.litB (w := w4) (cs := #[.int .i64 2, .int .i64 3, .int .i64 1, .int .i64 0, .int .i64 20]) (n := 5) rfl rfl (by show 5 ≤ 100; omega) rfl
   have hl_iB : gy < w4.heap.size := by omega
   have Lw5 : Ext w4 w5 := by subst hW7; exact qXt
   have Xw5 : Ext w w5 := Xw4.trans Lw5
   replace Rw4 := Rw4.ext Lw5
   replace q0 := Lw5.cell q0
   replace q1 := Lw5.cell q1
   replace q2 := Lw5.cell q2
   replace f_q0 := Lw5.frz z_q f_q0
   replace f_q1 := Lw5.frz z_q f_q1
   replace f_q2 := Lw5.frz z_q f_q2
   replace y0 := Lw5.cell y0
   replace y1 := Lw5.cell y1
   replace y2 := Lw5.cell y2
   have z_q : w.heap.size < w5.heap.size := qB q0
   have z_y : gy < w5.heap.size := qB y0
   replace iF := iF.ext Lw5
   have s_w5 : w.heap.size ≤ w5.heap.size := Xw5.size
   clear hW7
   refine qHr 8 rfl (fun K hK => ?_)
   try simp only [Act.put, qa, qb, qc, qD, qE, qF]
   go_simp
   refine hK.out _ (w5.alloc (.cells #[.int .i64 0, .int .i64 1, .int .i64 t, .int .i64 (-1)] 3)) ⟨(show Ext w5 (w5.alloc (.cells #[.int .i64 0, .int .i64 1, .int .i64 t, .int .i64 (-1)] 3)) from qXt).cell y0, (show Ext w5 (w5.alloc (.cells #[.int .i64 0, .int .i64 1, .int .i64 t, .int .i64 (-1)] 3)) from qXt).cell y1, (show Ext w5 (w5.alloc (.cells #[.int .i64 0, .int .i64 1, .int .i64 t, .int .i64 (-1)] 3)) from qXt).cell y2⟩ (fun hHeld => ?_)
   clear hK K
   try simp only [Act.put, qa, qb, qc, qD, qE, qF]
   generalize hW8 : w5.alloc (.cells #[.int .i64 0, .int .i64 1, .int .i64 t, .int .i64 (-1)] 3) = w6 at *
   have iA : Ints w6 w5.heap.size (.slice (some ⟨w5.heap.size, 0, none⟩) 4 4) [0, 1, t, (-1)] := by subst hW8; exact Ints.litB (w := w5) (cs := #[.int .i64 0, .int .i64 1, .int .i64 t, .int .i64 (-1)]) (n := 4) rfl rfl (by show 4 ≤ 100; omega) rfl
   have hl_iA : gy < w5.heap.size := by omega
   have Lw6 : Ext w5 w6 := by subst hW8; exact qXt
   have Xw6 : Ext w w6 := Xw5.trans Lw6
   replace Rw4 := Rw4.ext Lw6
   replace q0 := Lw6.cell q0
   replace q1 := Lw6.cell q1
   replace q2 := Lw6.cell q2
   replace f_q0 := Lw6.frz z_q f_q0
   replace f_q1 := Lw6.frz z_q f_q1
   replace f_q2 := Lw6.frz z_q f_q2
   replace y0 := Lw6.cell y0
   replace y1 := Lw6.cell y1
   replace y2 := Lw6.cell y2
   have z_q : w.heap.size < w6.heap.size := qB q0
   have z_y : gy < w6.heap.size := qB y0
   replace iF := iF.ext Lw6
   replace iB := iB.ext Lw6
   have s_w6 : w.heap.size ≤ w6.heap.size := Xw6.size
   clear hW8
   refine qHr 9 rfl (fun K hK => ?_)
   try simp only [Act.put, qa, qb, qc, qD, qE, qF]
   go_simp
   refine (one_c [0, 1, t, -1] _ _ _ _ _ Rw4 (by omega) iA (by omega) (by simp)).mono ?_
   rintro e w7 ⟨ka, rfl, hka, Rw7, Cw7⟩
   have zc_w7 := Cw7.size
   have Xw7 : Ext w w7 := Rch.toExt' Cw7 (by omega) (Xw6)
   replace q0 := Cw7.cell (by omega) q0
   replace f_q0 := Cw7.frzO (by omega) (by omega) f_q0
   replace q1 := Cw7.cell (by omega) q1
   replace f_q1 := Cw7.frzO (by omega) (by omega) f_q1
   replace q2 := Cw7.cell (by omega) q2
   replace f_q2 := Cw7.frzO (by omega) (by omega) f_q2
   replace y0 := Cw7.cell (by omega) y0
   replace y1 := Cw7.cell (by omega) y1
   replace y2 := Cw7.cell (by omega) y2
   have z_q : w.heap.size < w7.heap.size := qB q0
   have z_y : gy < w7.heap.size := qB y0
   replace iF := iF.chg Cw7 (by omega)
   replace iB := iB.chg Cw7 (by omega)
   replace iA := iA.chg Cw7 (by omega)
   have s_w7 : w.heap.size ≤ w7.heap.size := Xw7.size
   clear Rw4 Cw7
   replace hka : -1 ≤ ka ∧ ka ≤ 6 := by have h7 : ka ∈ [0, 1, t, -1] := hka; simp at h7; omega
   refine hK.out _ _ ⟨y0, y1, y2⟩ (fun hHeld => ?_)
   clear hK K
   try simp only [Act.put, qa, qb, qc, qD, qE, qF]
   refine qHr 12 rfl (fun K hK => ?_)
   try simp only [Act.put, qa, qb, qc, qD, qE, qF]
   go_simp
   refine (one_c [2, 3, 1, 0, 20] _ _ _ _ _ Rw7 (by omega) iB (by omega) (by simp)).mono ?_
   rintro e w8 ⟨mb, rfl, hmb, Rw8, Cw8⟩
   have zc_w8 := Cw8.size
   have Xw8 : Ext w w8 := Rch.toExt' Cw8 (by omega) (Xw7)
   replace q0 := Cw8.cell (by omega) q0
   replace f_q0 := Cw8.frzO (by omega) (by omega) f_q0
   replace q1 := Cw8.cell (by omega) q1
   replace f_q1 := Cw8.frzO (by omega) (by omega) f_q1
   replace q2 := Cw8.cell (by omega) q2
   replace f_q2 := Cw8.frzO (by omega) (by omega) f_q2
   replace y0 := Cw8.cell (by omega) y0
   replace y1 := Cw8.cell (by omega) y1
   replace y2 := Cw8.cell (by omega) y2
   have z_q : w.heap.size < w8.heap.size := qB q0
   have z_y : gy < w8.heap.size := qB y0
   replace iF := iF.chg Cw8 (by omega)
   replace iB := iB.chg Cw8 (by omega)
   replace iA := iA.chg Cw8 (by omega)
   have s_w8 : w.heap.size ≤ w8.heap.size := Xw8.size
   clear Rw7 Cw8
   replace hmb : 0 ≤ mb ∧ mb ≤ 20 := by have h7 : mb ∈ [2, 3, 1, 0, 20] := hmb; simp at h7; omega
   refine hK.out _ _ ⟨y0, y1, y2⟩ (fun hHeld => ?_)
   clear hK K
   try simp only [Act.put, qa, qb, qc, qD, qE, qF]
   refine qHr 13 rfl (fun K hK => ?_)
   try simp only [Act.put, qa, qb, qc, qD, qE, qF]
   go_simp
   have KS : Chg (w.heap.size) (w.heap.size + 1) w8 (((w8.setCell ⟨w.heap.size, 0, none⟩ (.slice p1 xs.length c1)).setCell ⟨w.heap.size, 1, none⟩ (.bool big)).setCell ⟨w.heap.size, 2, none⟩ (.bool al)) := (Chg.setCell (p := ⟨w.heap.size, 2, none⟩) (Chg.setCell (p := ⟨w.heap.size, 1, none⟩) (Chg.setCell (p := ⟨w.heap.size, 0, none⟩) (Chg.refl _ _ _) (Nat.le_refl _) (Nat.lt_succ_self _) _) (Nat.le_refl _) (Nat.lt_succ_self _) _) (Nat.le_refl _) (Nat.lt_succ_self _) _)
   refine hK.out _ (((w8.setCell ⟨w.heap.size, 0, none⟩ (.slice p1 xs.length c1)).setCell ⟨w.heap.size, 1, none⟩ (.bool big)).setCell ⟨w.heap.size, 2, none⟩ (.bool al)) ⟨(KS.cell (by omega) y0), (KS.cell (by omega) y1), (KS.cell (by omega) y2)⟩ (fun hHeld => ?_)
   clear hK K KS
   try simp only [Act.put, qa, qb, qc, qD, qE, qF]
   generalize hW9 : (((w8.setCell ⟨w.heap.size, 0, none⟩ (.slice p1 xs.length c1)).setCell ⟨w.heap.size, 1, none⟩ (.bool big)).setCell ⟨w.heap.size, 2, none⟩ (.bool al)) = w9 at *
   have Kw9 : Chg (w.heap.size) (w.heap.size + 1) w8 w9 := by subst hW9; exact qCh
   have Xw9 : Ext w w9 := by subst hW9; exact qXt
   replace q0 : w9.cell? ⟨w.heap.size, 0, none⟩ = some (.slice p1 xs.length c1) := by subst hW9; go_simp
   replace f_q0 : w9.frozen? ⟨w.heap.size, 0, none⟩ = false := by subst hW9; first | (simp only [World.frozen?_setCell]; with_reducible assumption) | go_simp
   replace q1 : w9.cell? ⟨w.heap.size, 1, none⟩ = some (.bool big) := by subst hW9; go_simp
   replace f_q1 : w9.frozen? ⟨w.heap.size, 1, none⟩ = false := by subst hW9; first | (simp only [World.frozen?_setCell]; with_reducible assumption) | go_simp
   replace q2 : w9.cell? ⟨w.heap.size, 2, none⟩ = some (.bool al) := by subst hW9; go_simp
   replace f_q2 : w9.frozen? ⟨w.heap.size, 2, none⟩ = false := by subst hW9; first | (simp only [World.frozen?_setCell]; with_reducible assumption) | go_simp
   replace y0 := Kw9.cell (by omega) y0
   replace y1 := Kw9.cell (by omega) y1
   replace y2 := Kw9.cell (by omega) y2
   replace iF := iF.chg Kw9 (by omega)
   replace iB := iB.chg Kw9 (by omega)
   replace iA := iA.chg Kw9 (by omega)
   clear Kw9
   have z_q : w.heap.size < w9.heap.size := qB q0
   have z_y : gy < w9.heap.size := qB y0
   have s_w9 : w.heap.size ≤ w9.heap.size := Xw9.size
   clear hW9
   refine qHk (v := ?_) 14 rfl (.inl ⟨by rfl, ?_⟩) ?_
   rotate_left
   ·
    (intro w hSw; (try dsimp only at hSw); go_simp; try with_reducible rfl)
   try simp only [Act.put, qa, qb, qc, qD, qE, qF]
   refine qHk (v := ?_) 15 rfl (.inl ⟨by rfl, ?_⟩) ?_
   rotate_left
   ·
    (intro w hSw; (try dsimp only at hSw); go_simp; try with_reducible rfl)
   try simp only [Act.put, qa, qb, qc, qD, qE, qF]
   refine wpAnyH_done qKr ?_ _
   clear hHeld
   go_wp2_with fail
   refine bodyPost_ret (v := .tuple #[.agg #[.slice p1 xs.length c1, .bool big, .bool al], .int .i64 ka, .int .i64 mb]) (by simp only [results, Try.results18]; go_simp) rfl ?_
   exact ⟨xs, big, al, _, _, ka, mb, rfl, iF.lower (by omega), hx5, hka, hmb, Xw9⟩
 ·
  try simp only [Act.put, qa, qb, qc, qD, qE, qF]
  go_simp
  refine hK.out _ (w3.drew.alloc (.cells #[.int .i64 2, .int .i64 3, .int .i64 1, .int .i64 0, .int .i64 20] 3)) ⟨(show Ext w3 (w3.drew.alloc (.cells #[.int .i64 2, .int .i64 3, .int .i64 1, .int .i64 0, .int .i64 20] 3)) from qXt).cell y0, (show Ext w3 (w3.drew.alloc (.cells #[.int .i64 2, .int .i64 3, .int .i64 1, .int .i64 0, .int .i64 20] 3)) from qXt).cell y1, (show Ext w3 (w3.drew.alloc (.cells #[.int .i64 2, .int .i64 3, .int .i64 1, .int .i64 0, .int .i64 20] 3)) from qXt).cell y2⟩ (fun hHeld => ?_)
  clear hK K
  try simp only [Act.put, qa, qb, qc, qD, qE, qF]
  generalize hW10 : w3.drew.alloc (.cells #[.int .i64 2, .int .i64 3, .int .i64 1, .int .i64 0, .int .i64 20] 3) = w4 at *
  have iB : Ints w4 w3.heap.size (.slice (some ⟨w3.heap.size, 0, none⟩) 5 5) [2, 3, 1, 0, 20] := by subst hW10; exact Ints.litB (w := w3.drew) (cs := #[.int .i64 2, .int .i64 3, .int .i64 1, .int .i64 0, .int .i64 20]) (n := 5) rfl rfl (by show 5 ≤ 100; omega) rfl
  have hl_iB : gy < w3.heap.size := by omega
  have Lw4 : Ext w3 w4 := by subst hW10; exact qXt
  have Xw4 : Ext w w4 := Xw3.trans Lw4
  replace Rw2 := Rw2.ext Lw4
  replace q0 := Lw4.cell q0
  replace q1 := Lw4.cell q1
  replace q2 := Lw4.cell q2
  replace f_q0 := Lw4.frz z_q f_q0
  replace f_q1 := Lw4.frz z_q f_q1
  replace f_q2 := Lw4.frz z_q f_q2
  replace y0 := Lw4.cell y0
  replace y1 := Lw4.cell y1
  replace y2 := Lw4.cell y2
  have z_q : w.heap.size < w4.heap.size := qB q0
  have z_y : gy < w4.heap.size := qB y0
  replace iF := iF.ext Lw4
  have s_w4 : w.heap.size ≤ w4.heap.size := Xw4.size
  clear hW10
  refine qHr 7 rfl (fun K hK => ?_)
  try simp only [Act.put, qa, qb, qc, qD, qE, qF]
  go_simp
  refine (pick1_c ((xs.length : Int) + 1) _ _ _ Rw2 (by omega) (by omega)).mono ?_
  rintro e w5 ⟨t, rfl, ht, Rw5, Cw5⟩
  have zc_w5 := Cw5.size
  have Xw5 : Ext w w5 := Rch.toExt' Cw5 (by omega) (Xw4)
  replace q0 := Cw5.cell (by omega) q0
  replace f_q0 := Cw5.frzO (by omega) (by omega) f_q0
  replace q1 := Cw5.cell (by omega) q1
  replace f_q1 := Cw5.frzO (by omega) (by omega) f_q1
  replace q2 := Cw5.cell (by omega) q2
  replace f_q2 := Cw5.frzO (by omega) (by omega) f_q2
  replace y0 := Cw5.cell (by omega) y0
  replace y1 := Cw5.cell (by omega) y1
  replace y2 := Cw5.cell (by omega) y2
  have z_q : w.heap.size < w5.heap.size := qB q0
  have z_y : gy < w5.heap.size := qB y0
  replace iF := iF.chg Cw5 (by omega)
  replace iB := iB.chg Cw5 (by omega)
  have s_w5 : w.heap.size ≤ w5.heap.size := Xw5.size
  clear Rw2 Cw5
  refine hK.out _ _ ⟨y0, y1, y2⟩ (fun hHeld => ?_)
  clear hK K
  try simp only [Act.put, qa, qb, qc, qD, qE, qF]
  refine qHr 8 rfl (fun K hK => ?_)
  try simp only [Act.put, qa, qb, qc, qD, qE, qF]
  go_simp
  refine hK.out _ (w5.alloc (.cells #[.int .i64 0, .int .i64 1, .int .i64 t, .int .i64 (-1)] 3)) ⟨(show Ext w5 (w5.alloc (.cells #[.int .i64 0, .int .i64 1, .int .i64 t, .int .i64 (-1)] 3)) from qXt).cell y0, (show Ext w5 (w5.alloc (.cells #[.int .i64 0, .int .i64 1, .int .i64 t, .int .i64 (-1)] 3)) from qXt).cell y1, (show Ext w5 (w5.alloc (.cells #[.int .i64 0, .int .i64 1, .int .i64 t, .int .i64 (-1)] 3)) from qXt).cell y2⟩ (fun hHeld => ?_)
  clear hK K
  try simp only [Act.put, qa, qb, qc, qD, qE, qF]
  generalize hW11 : w5.alloc (.cells #[.int .i64 0, .int .i64 1, .int .i64 t, .int .i64 (-1)] 3) = w6 at *
  have iA : Ints w6 w5.heap.size (.slice (some ⟨w5.heap.size, 0, none⟩) 4 4) [0, 1, t, (-1)] := by subst hW11; exact Ints.litB (w := w5) (cs := #[.int .i64 0, .int .i64 1, .int .i64 t, .int .i64 (-1)]) (n := 4) rfl rfl (by show 4 ≤ 100; omega) rfl
  have hl_iA : gy < w5.heap.size := by omega
  have Lw6 : Ext w5 w6 := by subst hW11; exact qXt
  have Xw6 : Ext w w6 := Xw5.trans Lw6
  replace Rw5 := Rw5.ext Lw6
  replace q0 := Lw6.cell q0
  replace q1 := Lw6.cell q1
  replace q2 := Lw6.cell q2
  replace f_q0 := Lw6.frz z_q f_q0
  replace f_q1 := Lw6.frz z_q f_q1
  replace f_q2 := Lw6.frz z_q f_q2
  replace y0 := Lw6.cell y0
  replace y1 := Lw6.cell y1
  replace y2 := Lw6.cell y2
  have z_q : w.heap.size < w6.heap.size := qB q0
  have z_y : gy < w6.heap.size := qB y0
  replace iF := iF.ext Lw6
  replace iB := iB.ext Lw6
  have s_w6 : w.heap.size ≤ w6.heap.size := Xw6.size
  clear hW11
  refine qHr 9 rfl (fun K hK => ?_)
  try simp only [Act.put, qa, qb, qc, qD, qE, qF]
  go_simp
  refine (one_c [0, 1, t, -1] _ _ _ _ _ Rw5 (by omega) iA (by omega) (by simp)).mono ?_
  rintro e w7 ⟨ka, rfl, hka, Rw7, Cw7⟩
  have zc_w7 := Cw7.size
  have Xw7 : Ext w w7 := Rch.toExt' Cw7 (by omega) (Xw6)
  replace q0 := Cw7.cell (by omega) q0
  replace f_q0 := Cw7.frzO (by omega) (by omega) f_q0
  replace q1 := Cw7.cell (by omega) q1
  replace f_q1 := Cw7.frzO (by omega) (by omega) f_q1
  replace q2 := Cw7.cell (by omega) q2
  replace f_q2 := Cw7.frzO (by omega) (by omega) f_q2
  replace y0 := Cw7.cell (by omega) y0
  replace y1 := Cw7.cell (by omega) y1
  replace y2 := Cw7.cell (by omega) y2
  have z_q : w.heap.size < w7.heap.size := qB q0
  have z_y : gy < w7.heap.size := qB y0
  replace iF := iF.chg Cw7 (by omega)
  replace iB := iB.chg Cw7 (by omega)
  replace iA := iA.chg Cw7 (by omega)
  have s_w7 : w.heap.size ≤ w7.heap.size := Xw7.size
  clear Rw5 Cw7
  replace hka : -1 ≤ ka ∧ ka ≤ 6 := by have h7 : ka ∈ [0, 1, t, -1] := hka; simp at h7; omega
  refine hK.out _ _ ⟨y0, y1, y2⟩ (fun hHeld => ?_)
  clear hK K
  try simp only [Act.put, qa, qb, qc, qD, qE, qF]
  refine qHr 12 rfl (fun K hK => ?_)
  try simp only [Act.put, qa, qb, qc, qD, qE, qF]
  go_simp
  refine (one_c [2, 3, 1, 0, 20] _ _ _ _ _ Rw7 (by omega) iB (by omega) (by simp)).mono ?_
  rintro e w8 ⟨mb, rfl, hmb, Rw8, Cw8⟩
  have zc_w8 := Cw8.size
  have Xw8 : Ext w w8 := Rch.toExt' Cw8 (by omega) (Xw7)
  replace q0 := Cw8.cell (by omega) q0
  replace f_q0 := Cw8.frzO (by omega) (by omega) f_q0
  replace q1 := Cw8.cell (by omega) q1
  replace f_q1 := Cw8.frzO (by omega) (by omega) f_q1
  replace q2 := Cw8.cell (by omega) q2
  replace f_q2 := Cw8.frzO (by omega) (by omega) f_q2
  replace y0 := Cw8.cell (by omega) y0
  replace y1 := Cw8.cell (by omega) y1
  replace y2 := Cw8.cell (by omega) y2
  have z_q : w.heap.size < w8.heap.size := qB q0
  have z_y : gy < w8.heap.size := qB y0
  replace iF := iF.chg Cw8 (by omega)
  replace iB := iB.chg Cw8 (by omega)
  replace iA := iA.chg Cw8 (by omega)
  have s_w8 : w.heap.size ≤ w8.heap.size := Xw8.size
  clear Rw7 Cw8
  replace hmb : 0 ≤ mb ∧ mb ≤ 20 := by have h7 : mb ∈ [2, 3, 1, 0, 20] := hmb; simp at h7; omega
  refine hK.out _ _ ⟨y0, y1, y2⟩ (fun hHeld => ?_)
  clear hK K
  try simp only [Act.put, qa, qb, qc, qD, qE, qF]
  refine qHr 13 rfl (fun K hK => ?_)
  try simp only [Act.put, qa, qb, qc, qD, qE, qF]
  go_simp
  have KS : Chg (w.heap.size) (w.heap.size + 1) w8 (((w8.setCell ⟨w.heap.size, 0, none⟩ (.slice p1 xs.length c1)).setCell ⟨w.heap.size, 1, none⟩ (.bool big)).setCell ⟨w.heap.size, 2, none⟩ (.bool al)) := (Chg.setCell (p := ⟨w.heap.size, 2, none⟩) (Chg.setCell (p := ⟨w.heap.size, 1, none⟩) (Chg.setCell (p := ⟨w.heap.size, 0, none⟩) (Chg.refl _ _ _) (Nat.le_refl _) (Nat.lt_succ_self _) _) (Nat.le_refl _) (Nat.lt_succ_self _) _) (Nat.le_refl _) (Nat.lt_succ_self _) _)
  refine hK.out _ (((w8.setCell ⟨w.heap.size, 0, none⟩ (.slice p1 xs.length c1)).setCell ⟨w.heap.size, 1, none⟩ (.bool big)).setCell ⟨w.heap.size, 2, none⟩ (.bool al)) ⟨(KS.cell (by omega) y0), (KS.cell (by omega) y1), (KS.cell (by omega) y2)⟩ (fun hHeld => ?_)
  clear hK K KS
  try simp only [Act.put, qa, qb, qc, qD, qE, qF]
  generalize hW12 : (((w8.setCell ⟨w.heap.size, 0, none⟩ (.slice p1 xs.length c1)).setCell ⟨w.heap.size, 1, none⟩ (.bool big)).setCell ⟨w.heap.size, 2, none⟩ (.bool al)) = w9 at *
  have Kw9 : Chg (w.heap.size) (w.heap.size + 1) w8 w9 := by subst hW12; exact qCh
  have Xw9 : Ext w w9 := by subst hW12; exact qXt
  replace q0 : w9.cell? ⟨w.heap.size, 0, none⟩ = some (.slice p1 xs.length c1) := by subst hW12; go_simp
  replace f_q0 : w9.frozen? ⟨w.heap.size, 0, none⟩ = false := by subst hW12; first | (simp only [World.frozen?_setCell]; with_reducible assumption) | go_simp
  replace q1 : w9.cell? ⟨w.heap.size, 1, none⟩ = some (.bool big) := by subst hW12; go_simp
  replace f_q1 : w9.frozen? ⟨w.heap.size, 1, none⟩ = false := by subst hW12; first | (simp only [World.frozen?_setCell]; with_reducible assumption) | go_simp
  replace q2 : w9.cell? ⟨w.heap.size, 2, none⟩ = some (.bool al) := by subst hW12; go_simp
  replace f_q2 : w9.frozen? ⟨w.heap.size, 2, none⟩ = false := by subst hW12; first | (simp only [World.frozen?_setCell]; with_reducible assumption) | go_simp
  replace y0 := Kw9.cell (by omega) y0
  replace y1 := Kw9.cell (by omega) y1
  replace y2 := Kw9.cell (by omega) y2
  replace iF := iF.chg Kw9 (by omega)
  replace iB := iB.chg Kw9 (by omega)
  replace iA := iA.chg Kw9 (by omega)
  clear Kw9
  have z_q : w.heap.size < w9.heap.size := qB q0
  have z_y : gy < w9.heap.size := qB y0
  have s_w9 : w.heap.size ≤ w9.heap.size := Xw9.size
  clear hW12
  refine qHk (v := ?_) 14 rfl (.inl ⟨by rfl, ?_⟩) ?_
  rotate_left
  ·
   (intro w hSw; (try dsimp only at hSw); go_simp; try with_reducible rfl)
  try simp only [Act.put, qa, qb, qc, qD, qE, qF]
  refine qHk (v := ?_) 15 rfl (.inl ⟨by rfl, ?_⟩) ?_
  rotate_left
  ·
   (intro w hSw; (try dsimp only at hSw); go_simp; try with_reducible rfl)
  try simp only [Act.put, qa, qb, qc, qD, qE, qF]
  refine wpAnyH_done qKr ?_ _
  clear hHeld
  go_wp2_with fail
  refine bodyPost_ret (v := .tuple #[.agg #[.slice p1 xs.length c1, .bool big, .bool al], .int .i64 ka, .int .i64 mb]) (by simp only [results, Try.results18]; go_simp) rfl ?_
  exact ⟨xs, big, al, _, _, ka, mb, rfl, iF.lower (by omega), hx5, hka, hmb, Xw9⟩

end Go.Proofs.Ytpgkhjmboiepcaa

/- Walks: CountOf of the program. -/
namespace Go.Proofs.Ytpgkhjmboiepcaa
open Go.RowKit
set_option linter.unusedVariables false
set_option maxRecDepth 100000


def cntA (s : List Int) : Int := if shapeB s then countL s else -1

set_option maxHeartbeats 1600000 in
theorem implCountOf_c (s : List Int) (v1 : Value) (w : World) (l1 : Nat) (h1 : Ints w l1 v1 s) :
    Calls Try.prog 24 #[v1] w (fun e w' => e = .returned (.int .i64 (cntA s)) ∧ w = w') := by
  obtain ⟨p0, c0, rfl⟩ := h1.form
  go_enter Try.func24, Try.ntmps24
  go_wp2_with fail
  refine (isShape_c s (.slice p0 s.length c0) _ _ (h1.ext qXt)).mono ?_
  rintro e w' ⟨rfl, rfl⟩
  cases hB1 : shapeB s
  · replace hB1 := Lib.hid hB1
    go_wp2_with fail
    go_ret
    exact ⟨by rw [show cntA s = -1 by unfold cntA; rw [hB1.out]; rfl] <;> rfl, rfl⟩
  · replace hB1 := Lib.hid hB1
    go_wp2_with fail
    refine (countOf_c s (.slice p0 s.length c0) _ _ (h1.ext qXt)).mono ?_
    rintro e w' ⟨rfl, rfl⟩
    go_wp2_with fail
    go_ret
    exact ⟨by rw [show cntA s = countL s by unfold cntA; rw [hB1.out]; rfl] <;> rfl, rfl⟩


end Go.Proofs.Ytpgkhjmboiepcaa

/- Walks: IsOneToOne of the program and of the reference. -/
namespace Go.Proofs.Ytpgkhjmboiepcaa
open Go.RowKit
set_option linter.unusedVariables false
set_option maxRecDepth 100000

set_option maxHeartbeats 400000 in
theorem implIsOneToOne_c (base : Int) (sh st : Value) (shape strides : List Int) (w : World) (lo lo' : Nat) (hsh : Ints w lo sh shape) (hst : Ints w lo' st strides) :
    Calls Try.prog 23 #[.agg #[.int .i64 base, sh, st]] w fun e w' => e = .returned (.bool (viewB base shape strides && decide (offsL base shape strides).Nodup)) ∧ Ext w w' := by
  cases hv : viewB base shape strides
  · go_enter Try.func23, Try.ntmps23
    go_wp2_with fail
    refine (isView_c base _ _ shape strides _ lo lo' (hsh.ext qXo) (hst.ext qXo)).mono ?_
    rintro e w1 ⟨rfl, hx1⟩
    rw [hv]
    go_wp2_with fail
    go_ret
    exact ⟨rfl, Ext.trans qXo hx1⟩
  · have hv' := Lib.hid hv
    have ho := Lib.hid (one_diff hv)
    clear hv
    go_enter Try.func23, Try.ntmps23
    go_wp2_with fail
    refine (isView_c base _ _ shape strides _ lo lo' (hsh.ext qXo) (hst.ext qXo)).mono ?_
    rintro e w1 ⟨rfl, hx1⟩
    have R1 := hx1.rule
    rw [hv'.out]
    go_wp2_with fail
    refine (isOneToOne_c base _ _ shape strides _ lo lo' (hsh.ext (Ext.trans qXo hx1)) (hst.ext (Ext.trans qXo hx1)) hv'.out).mono ?_
    rintro e w2 ⟨rfl, hx2⟩
    rw [ho.out]
    go_wp2_with fail
    go_ret
    exact ⟨by simp, Ext.trans (Ext.trans qXo hx1) hx2⟩

end Go.Proofs.Ytpgkhjmboiepcaa

/- FnFieldView returns true. -/
namespace Go.Proofs.Ytpgkhjmboiepcaa
open Go.RowKit
set_option linter.unusedVariables false
set_option maxRecDepth 100000

theorem fldV_in {al big : Bool} {xs : List Int} {k m XB : Int} {XS XT : List Int} (h : fldV al big xs k m = (XB, XS, XT, true)) : fldB al big xs k m = true ∧ XB = fldBase al big xs k.toNat ∧ XS = [m, xs.getD k.toNat 0] ∧ XT = [sizeF al xs, sgnF big] := by
 cases hb : fldB al big xs k m with
 | false =>
  rw [fldV_no hb] at h
  have h7 : false = true := congrArg (fun x : VBool => x.2.2.2) h
  cases h7
 | true =>
  rw [fldV_yes hb] at h
  cases h
  exact ⟨rfl, rfl, rfl, rfl⟩
theorem fldV_apart {al big : Bool} {xs : List Int} {k i m XB YB : Int} {XS XT YS YT : List Int} (h : fldV al big xs k m = (XB, XS, XT, true)) (h2 : fldV al big xs i m = (YB, YS, YT, true)) (hne : i ≠ k) : meetB XB XS XT YB YS YT = false := by
 obtain ⟨g, rfl, rfl, rfl⟩ := fldV_in h
 obtain ⟨g2, rfl, rfl, rfl⟩ := fldV_in h2
 exact fld_apart g g2 hne
theorem fldV_one {al big : Bool} {xs : List Int} {k m XB : Int} {XS XT : List Int} (h : fldV al big xs k m = (XB, XS, XT, true)) : (viewB XB XS XT && decide (offsL XB XS XT).Nodup) = true := by
 obtain ⟨g, rfl, rfl, rfl⟩ := fldV_in h
 exact fld_one g
theorem fldV_cnt {al big : Bool} {xs : List Int} {k m XB : Int} {XS XT : List Int} (h : fldV al big xs k m = (XB, XS, XT, true)) : cntA XS = m * xs.getD k.toNat 0 ∧ (1 ≤ m ∧ m ≤ 60) ∧ (1 ≤ xs.getD k.toNat 0 ∧ xs.getD k.toNat 0 ≤ 4) ∧ 0 ≤ k ∧ k < xs.length := by
 obtain ⟨g, rfl, rfl, rfl⟩ := fldV_in h
 obtain ⟨c1, c2, c3, c4, c5⟩ := fld_count g
 obtain ⟨g1, g2, g3, g4⟩ := fldB_in g
 refine ⟨?_, ⟨c2, c3⟩, ⟨c4, c5⟩, g2⟩
 unfold cntA
 rw [(viewB_in g4).1, if_pos rfl, c1]
theorem implFv_e {xs : List Int} {u : Value} {big al : Bool} {k m : Int} {w : World} {lo : Nat} {X : VBool} (he : fldV al big xs k m = X) (h1 : Ints w lo u xs) : Calls Try.prog 19 #[.agg #[u, .bool big, .bool al], .int .i64 k, .int .i64 m] w (PVX w X) := by subst he; exact implFieldView_c xs u big al k m w lo h1
theorem specFv_e {xs : List Int} {u : Value} {big al : Bool} {k m : Int} {w : World} {lo : Nat} {X : VBool} (he : fldV al big xs k m = X) (h1 : Ints w lo u xs) : Calls Try.prog 20 #[.agg #[u, .bool big, .bool al], .int .i64 k, .int .i64 m] w (PVX w X) := by subst he; exact specFieldView_c xs u big al k m w lo h1
set_option maxHeartbeats 12800000 in
theorem lawFnFieldView_c (a : Option Addr) (n cap : Nat) (w : World) (hb : BysIn w a n cap) :
  Calls Try.prog 4 #[.slice a n cap] w fun e w' => e = .returned (.bool true) ∧ Ext w w' := by
 have hcm := hb.1
 have hcm2 := hb.2.1
 unfold maxLen at hcm2
 go_enter Try.func4, Try.ntmps4
 by_cases hc1 : (1048576 : Int) < (n : Int)
 ·
  go_wp2_with fail
  go_ret
  exact ⟨rfl, qXo⟩
 ·
  skip
  go_wp2_with fail
  refine (drawFieldView_c a n cap _ hb).mono ?_
  rintro e w1 ⟨xs, big, al, p1, c1, k, m, rfl, i1, hx5, hk6, hm20, xw1⟩
  have Lw1 : Ext w w1 := Ext.trans qXt xw1
  have Xw1 : Ext w w1 := Lw1
  have s_w1 : w.heap.size ≤ w1.heap.size := Xw1.size
  clear xw1
  clear hb hcm hcm2 hc1
  obtain ⟨⟨XB, XS, XT, XO⟩, hX⟩ : ∃ X, fldV al big xs k m = X := ⟨_, rfl⟩
  replace hX := Lib.hid hX
  go_wp2_with fail
  refine (implFv_e hX.out (i1.ext qXt)).mono ?_
  rintro e w2 ⟨u2, u3, rfl, j1, j2, xw2⟩
  have Lw2 : Ext w1 w2 := Ext.trans qXt xw2
  have Xw2 : Ext w w2 := Xw1.trans Lw2
  have f0 : w2.cell? ⟨w1.heap.size, 0, none⟩ = some (.slice p1 xs.length c1) := xw2.cell qCl
  have f1 : w2.cell? ⟨w1.heap.size, 1, none⟩ = some (.bool big) := xw2.cell qCl
  have f2 : w2.cell? ⟨w1.heap.size, 2, none⟩ = some (.bool al) := xw2.cell qCl
  have z_f : w1.heap.size < w2.heap.size := qB f0
  replace i1 := i1.ext Lw2
  have s_w2 : w.heap.size ≤ w2.heap.size := Xw2.size
  clear xw2
  dsimp only at j1 j2 ⊢
  obtain ⟨p2, c2, rfl⟩ := j1.form
  obtain ⟨p3, c3, rfl⟩ := j2.form
  go_wp2_with fail
  refine (specFv_e hX.out (i1.ext qXt)).mono ?_
  rintro e w3 ⟨u4, u5, rfl, j3, j4, xw3⟩
  have Lw3 : Ext w2 w3 := Ext.trans qXt xw3
  have Xw3 : Ext w w3 := Xw2.trans Lw3
  replace f0 := Lw3.cell f0
  replace f1 := Lw3.cell f1
  replace f2 := Lw3.cell f2
  have x0 : w3.cell? ⟨w2.heap.size, 0, none⟩ = some (.int .i64 XB) := xw3.cell qCl
  have x1 : w3.cell? ⟨w2.heap.size, 1, none⟩ = some (.slice p2 XS.length c2) := xw3.cell qCl
  have x2 : w3.cell? ⟨w2.heap.size, 2, none⟩ = some (.slice p3 XT.length c3) := xw3.cell qCl
  have z_f : w1.heap.size < w3.heap.size := qB f0
  have z_x : w2.heap.size < w3.heap.size := qB x0
  replace i1 := i1.ext Lw3
  replace j1 := j1.ext Lw3
  replace j2 := j2.ext Lw3
  have s_w3 : w.heap.size ≤ w3.heap.size := Xw3.size
  clear xw3
  dsimp only at j3 j4 ⊢
  obtain ⟨p4, c4, rfl⟩ := j3.form
  obtain ⟨p5, c5, rfl⟩ := j4.form
  go_wp2_with fail
  refine (leqView_c XB _ _ _ _ XS XT _ _ _ _ _ (j1.ext qXt) (j2.ext qXt) (j3.ext qXt) (j4.ext qXt)).mono ?_
  rintro e w4 ⟨rfl, xw4⟩
  have Lw4 : Ext w3 w4 := Ext.trans qXt xw4
  have Xw4 : Ext w w4 := Xw3.trans Lw4
  replace f0 := Lw4.cell f0
  replace f1 := Lw4.cell f1
  replace f2 := Lw4.cell f2
  replace x0 := Lw4.cell x0
  replace x1 := Lw4.cell x1
  replace x2 := Lw4.cell x2
  have y0 : w4.cell? ⟨w3.heap.size, 0, none⟩ = some (.int .i64 XB) := xw4.cell qCl
  have y1 : w4.cell? ⟨w3.heap.size, 1, none⟩ = some (.slice p4 XS.length c4) := xw4.cell qCl
  have y2 : w4.cell? ⟨w3.heap.size, 2, none⟩ = some (.slice p5 XT.length c5) := xw4.cell qCl
  have z_f : w1.heap.size < w4.heap.size := qB f0
  have z_x : w2.heap.size < w4.heap.size := qB x0
  have z_y : w3.heap.size < w4.heap.size := qB y0
  replace i1 := i1.ext Lw4
  replace j1 := j1.ext Lw4
  replace j2 := j2.ext Lw4
  replace j3 := j3.ext Lw4
  replace j4 := j4.ext Lw4
  have s_w4 : w.heap.size ≤ w4.heap.size := Xw4.size
  clear xw4
  cases XO
  ·
   go_wp2_with fail
   refine (leqView_c XB _ _ _ _ XS XT _ _ _ _ _ (j1.ext qXt) (j2.ext qXt) (j3.ext qXt) (j4.ext qXt)).mono ?_
   rintro e w5 ⟨rfl, xw5⟩
   have Lw5 : Ext w4 w5 := Ext.trans qXt xw5
   have Xw5 : Ext w w5 := Xw4.trans Lw5
   replace f0 := Lw5.cell f0
   replace f1 := Lw5.cell f1
   replace f2 := Lw5.cell f2
   replace x0 := Lw5.cell x0
   replace x1 := Lw5.cell x1
   replace x2 := Lw5.cell x2
   replace y0 := Lw5.cell y0
   replace y1 := Lw5.cell y1
   replace y2 := Lw5.cell y2
   have z_f : w1.heap.size < w5.heap.size := qB f0
   have z_x : w2.heap.size < w5.heap.size := qB x0
   have z_y : w3.heap.size < w5.heap.size := qB y0
   replace i1 := i1.ext Lw5
   replace j1 := j1.ext Lw5
   replace j2 := j2.ext Lw5
   replace j3 := j3.ext Lw5
   replace j4 := j4.ext Lw5
   have s_w5 : w.heap.size ≤ w5.heap.size := Xw5.size
   clear xw5
   go_wp2_with fail
   go_ret
   exact ⟨rfl, (Xw5.trans qXt)⟩
  ·
   clear y0 y1 y2
   clear j3 j4
   go_wp2_with fail
   go_loopw [10] (fun ii wr => ∃ (i : Nat), ii = .int .i64 (i : Int) ∧ i ≤ xs.length ∧ Ext w4 wr) (fun ii _ => xs.length - (intOf ii).toNat)
   case atStart => exact ⟨0, rfl, Nat.zero_le _, Ext.refl _⟩
   case round =>
    obtain ⟨i, rfl, hi, xl⟩ := hrel
    generalize wr = wl at *
    have EL := xl
    have Lwl : Ext w4 wl := Ext.trans qXt xl
    have Xwl : Ext w wl := Xw4.trans Lwl
    replace f0 := Lwl.cell f0
    replace f1 := Lwl.cell f1
    replace f2 := Lwl.cell f2
    replace x0 := Lwl.cell x0
    replace x1 := Lwl.cell x1
    replace x2 := Lwl.cell x2
    have z_f : w1.heap.size < wl.heap.size := qB f0
    have z_x : w2.heap.size < wl.heap.size := qB x0
    replace i1 := i1.ext Lwl
    replace j1 := j1.ext Lwl
    replace j2 := j2.ext Lwl
    have s_wl : w.heap.size ≤ wl.heap.size := Xwl.size
    clear xl
    by_cases hlt : i < xs.length
    ·
     have hlI : (i : Int) < (xs.length : Int) := by omega
     obtain ⟨⟨YB, YS, YT, YO⟩, hY⟩ : ∃ X, fldV al big xs (i : Int) m = X := ⟨_, rfl⟩
     replace hY := Lib.hid hY
     go_wp2_with fail
     refine (implFv_e hY.out (i1.ext qXt)).mono ?_
     rintro e w5 ⟨u6, u7, rfl, j5, j6, xw5⟩
     have Lw5 : Ext wl w5 := Ext.trans qXt xw5
     have Xw5 : Ext w w5 := Xwl.trans Lw5
     replace f0 := Lw5.cell f0
     replace f1 := Lw5.cell f1
     replace f2 := Lw5.cell f2
     replace x0 := Lw5.cell x0
     replace x1 := Lw5.cell x1
     replace x2 := Lw5.cell x2
     have z_f : w1.heap.size < w5.heap.size := qB f0
     have z_x : w2.heap.size < w5.heap.size := qB x0
     replace i1 := i1.ext Lw5
     replace j1 := j1.ext Lw5
     replace j2 := j2.ext Lw5
     have s_w5 : w.heap.size ≤ w5.heap.size := Xw5.size
     have EL_w5 : Ext w4 w5 := EL.trans Lw5
     clear xw5
     dsimp only at j5 j6 ⊢
     obtain ⟨p6, c6, rfl⟩ := j5.form
     obtain ⟨p7, c7, rfl⟩ := j6.form
     by_cases hik : (i : Int) = k
     ·
      have hn1 : ((i : Int) != k) = false := by simpa using hik
      have hn2 : ((i : Int) == k) = true := by simpa using hik
      replace hik := Lib.hid hik
      go_wp2_with fail
      go_roundw
      case rel => exact ⟨i + 1, by first | rfl | go_num, by omega, EL_w5.trans qXt⟩
      case measure => simp [intOf]; omega
     ·
      have hn1 : ((i : Int) != k) = true := by simpa using hik
      have hn2 : ((i : Int) == k) = false := by simpa using hik
      replace hik := Lib.hid hik
      cases YO
      ·
       go_wp2_with fail
       go_roundw
       case rel => exact ⟨i + 1, by first | rfl | go_num, by omega, EL_w5.trans qXt⟩
       case measure => simp [intOf]; omega
      ·
       have hap := Lib.hid (fldV_apart hX.out hY.out hik.out)
       go_wp2_with fail
       refine (implDoOverlap_c XB _ _ XS XT YB _ _ YS YT _ _ _ _ _ (j1.ext qXt) (j2.ext qXt) (j5.ext qXt) (j6.ext qXt)).mono ?_
       rintro e w6 ⟨rfl, xw6⟩
       have Lw6 : Ext w5 w6 := Ext.trans qXt xw6
       have Xw6 : Ext w w6 := Xw5.trans Lw6
       replace f0 := Lw6.cell f0
       replace f1 := Lw6.cell f1
       replace f2 := Lw6.cell f2
       replace x0 := Lw6.cell x0
       replace x1 := Lw6.cell x1
       replace x2 := Lw6.cell x2
       have z0 : w6.cell? ⟨w5.heap.size, 0, none⟩ = some (.int .i64 YB) := xw6.cell qCl
       have z1 : w6.cell? ⟨w5.heap.size, 1, none⟩ = some (.slice p6 YS.length c6) := xw6.cell qCl
       have z2 : w6.cell? ⟨w5.heap.size, 2, none⟩ = some (.slice p7 YT.length c7) := xw6.cell qCl
       have z_f : w1.heap.size < w6.heap.size := qB f0
       have z_x : w2.heap.size < w6.heap.size := qB x0
       have z_z : w5.heap.size < w6.heap.size := qB z0
       replace i1 := i1.ext Lw6
       replace j1 := j1.ext Lw6
       replace j2 := j2.ext Lw6
       replace j5 := j5.ext Lw6
       replace j6 := j6.ext Lw6
       have s_w6 : w.heap.size ≤ w6.heap.size := Xw6.size
       have EL_w6 : Ext w4 w6 := EL_w5.trans Lw6
       clear xw6
       rw [hap.out]
       go_wp2_with fail
       go_roundw
       case rel => exact ⟨i + 1, by first | rfl | go_num, by omega, EL_w6.trans qXt⟩
       case measure => simp [intOf]; omega
    ·
     obtain rfl : i = xs.length := by omega
     have hlI : ¬ (xs.length : Int) < (xs.length : Int) := by omega
     obtain ⟨hcnt, ⟨hm1, hm60⟩, ⟨hv1, hv4⟩, hk0, hkl⟩ := fldV_cnt hX.out
     have hone := Lib.hid (fldV_one hX.out)
     obtain ⟨kn, rfl⟩ : ∃ q : Nat, k = (q : Int) := ⟨k.toNat, by omega⟩
     rw [Int.toNat_natCast] at hcnt hv1 hv4
     have hkI : (kn : Int) < (xs.length : Int) := by omega
     have hkn : kn < xs.length := by omega
     have hk0' : ¬ (kn : Int) < 0 := by omega
     obtain ⟨bl, ol, rfl, e0⟩ := i1.at kn hkn
     have z_e : bl < wl.heap.size := qB e0
     obtain ⟨v, hv⟩ : ∃ v, xs.getD kn 0 = v := ⟨_, rfl⟩
     rw [hv] at e0 hcnt hv1 hv4
     obtain ⟨Q, hQ⟩ : ∃ Q, m * v = Q := ⟨_, rfl⟩
     have hQb : 1 ≤ Q ∧ Q ≤ 240 := by
      have h7 : v = 1 ∨ v = 2 ∨ v = 3 ∨ v = 4 := by omega
      rcases h7 with rfl | rfl | rfl | rfl <;> omega
     have hwQ : IntKind.i64.wrap (m * v) = Q := by rw [hQ]; exact IntWalk.i64_in _ (by omega)
     rw [hQ] at hcnt
     replace hcnt := Lib.hid hcnt
     replace hv := Lib.hid hv
     replace hQ := Lib.hid hQ
     go_wp2_with fail
     refine wp_region_tail (S := fun w' => w'.cell? ⟨w1.heap.size, 0, none⟩ = some (.slice (some ⟨bl, ol, none⟩) xs.length c1) ∧ w'.cell? ⟨w1.heap.size, 1, none⟩ = some (.bool big) ∧ w'.cell? ⟨w1.heap.size, 2, none⟩ = some (.bool al) ∧ w'.cell? ⟨w2.heap.size, 0, none⟩ = some (.int .i64 XB) ∧ w'.cell? ⟨w2.heap.size, 1, none⟩ = some (.slice p2 XS.length c2) ∧ w'.cell? ⟨w2.heap.size, 2, none⟩ = some (.slice p3 XT.length c3) ∧ w'.cell? ⟨bl, ol + kn, none⟩ = some (.int .i64 v)) (fun i => decide (16 ≤ i)) qKr ⟨f0, f1, f2, x0, x1, x2, e0⟩ (fun hHeld => ?_)
     refine qTk (v := ?_) 0 rfl (.inl ⟨by rfl, ?_⟩) ?_
     rotate_left
     ·
      (intro w hSw; (try dsimp only at hSw); go_simp; try with_reducible rfl)
     try simp only [Act.put, qa, qb, qc, qD, qE, qF]
     refine wpTail_one (i := 1) qKr rfl rfl (fun K hK => ?_)
     try simp only [Act.put, qa, qb, qc, qD, qE, qF]
     go_simp
     refine (implIsOneToOne_c XB _ _ XS XT _ _ _ (j1.ext qXt) (j2.ext qXt)).mono ?_
     rintro e w5 ⟨rfl, xw5⟩
     have Lw5 : Ext wl w5 := Ext.trans qXt xw5
     have Xw5 : Ext w w5 := Xwl.trans Lw5
     replace f0 := Lw5.cell f0
     replace f1 := Lw5.cell f1
     replace f2 := Lw5.cell f2
     replace x0 := Lw5.cell x0
     replace x1 := Lw5.cell x1
     replace x2 := Lw5.cell x2
     replace e0 := Lw5.cell e0
     have z_f : w1.heap.size < w5.heap.size := qB f0
     have z_x : w2.heap.size < w5.heap.size := qB x0
     have z_e : bl < w5.heap.size := qB e0
     replace i1 := i1.ext Lw5
     replace j1 := j1.ext Lw5
     replace j2 := j2.ext Lw5
     have s_w5 : w.heap.size ≤ w5.heap.size := Xw5.size
     have EL_w5 : Ext w4 w5 := EL.trans Lw5
     clear xw5
     rw [hone.out]
     refine hK.out _ _ ⟨f0, f1, f2, x0, x1, x2, e0⟩ (fun hHeld => ?_)
     clear hK K
     try simp only [Act.put, qa, qb, qc, qD, qE, qF]
     refine qTk (v := ?_) 2 rfl (.inl ⟨by rfl, ?_⟩) ?_
     rotate_left
     ·
      (intro w hSw; (try dsimp only at hSw); go_simp; try with_reducible rfl)
     try simp only [Act.put, qa, qb, qc, qD, qE, qF]
     refine qTk (v := ?_) 3 rfl (.inl ⟨by rfl, ?_⟩) ?_
     rotate_left
     ·
      (intro w hSw; (try dsimp only at hSw); go_simp; try with_reducible rfl)
     try simp only [Act.put, qa, qb, qc, qD, qE, qF]
     refine qTk (v := ?_) 4 rfl (.inl ⟨by rfl, ?_⟩) ?_
     rotate_left
     ·
      (intro w hSw; (try dsimp only at hSw); go_simp; try with_reducible rfl)
     try simp only [Act.put, qa, qb, qc, qD, qE, qF]
     refine qTk (v := ?_) 6 rfl (.inl ⟨by rfl, ?_⟩) ?_
     rotate_left
     ·
      (intro w hSw; (try dsimp only at hSw); go_simp; try with_reducible rfl)
     try simp only [Act.put, qa, qb, qc, qD, qE, qF]
     refine qTk (v := ?_) 7 rfl (.inl ⟨by rfl, ?_⟩) ?_
     rotate_left
     ·
      (intro w hSw; (try dsimp only at hSw); go_simp; try with_reducible rfl)
     try simp only [Act.put, qa, qb, qc, qD, qE, qF]
     refine qTk (v := ?_) 8 rfl (.inl ⟨by rfl, ?_⟩) ?_
     rotate_left
     ·
      (intro w hSw; (try dsimp only at hSw); go_simp; try with_reducible rfl)
     try simp only [Act.put, qa, qb, qc, qD, qE, qF]
     refine qTk (v := ?_) 9 rfl (.inl ⟨by rfl, ?_⟩) ?_
     rotate_left
     ·
      (intro w hSw; (try dsimp only at hSw); go_simp; try with_reducible rfl)
     try simp only [Act.put, qa, qb, qc, qD, qE, qF]
     refine qTk (v := ?_) 10 rfl (.inl ⟨by rfl, ?_⟩) ?_
     rotate_left
     ·
      (intro w hSw; (try dsimp only at hSw); go_simp; try with_reducible rfl)
     try simp only [Act.put, qa, qb, qc, qD, qE, qF]
     refine qTk (v := ?_) 11 rfl (.inl ⟨by rfl, ?_⟩) ?_
     rotate_left
     ·
      (intro w hSw; (try dsimp only at hSw); go_simp; try with_reducible rfl)
     try simp only [Act.put, qa, qb, qc, qD, qE, qF]
     refine qTk (v := ?_) 12 rfl (.inl ⟨by rfl, ?_⟩) ?_
     rotate_left
     ·
      (intro w hSw; (try dsimp only at hSw); go_simp; try with_reducible rfl)
     try simp only [Act.put, qa, qb, qc, qD, qE, qF]
     refine wpTail_one (i := 5) qKr rfl rfl (fun K hK => ?_)
     try simp only [Act.put, qa, qb, qc, qD, qE, qF]
     go_simp
     refine (implCountOf_c XS _ _ _ (j1.ext qXt)).mono ?_
     rintro e w7 ⟨rfl, rfl⟩
     rw [hcnt.out]
     refine hK.out _ _ ⟨f0, f1, f2, x0, x1, x2, e0⟩ (fun hHeld => ?_)
     clear hK K
     try simp only [Act.put, qa, qb, qc, qD, qE, qF]
     refine qTk (v := ?_) 13 rfl (.inl ⟨by rfl, ?_⟩) ?_
     rotate_left
     ·
      (intro w hSw; (try dsimp only at hSw); go_simp; try with_reducible rfl)
     try simp only [Act.put, qa, qb, qc, qD, qE, qF]
     refine qTk (v := ?_) 14 rfl (.inl ⟨by rfl, ?_⟩) ?_
     rotate_left
     ·
      (intro w hSw; (try dsimp only at hSw); go_simp; try with_reducible rfl)
     try simp only [Act.put, qa, qb, qc, qD, qE, qF]
     refine qTk (v := ?_) 15 rfl (.inl ⟨by rfl, ?_⟩) ?_
     rotate_left
     ·
      (intro w hSw; (try dsimp only at hSw); go_simp; try with_reducible rfl)
     try simp only [Act.put, qa, qb, qc, qD, qE, qF]
     refine wpTail_done qKr ?_ _
     clear hHeld
     go_wp2_with fail
     go_ret
     exact ⟨by simp, (Xw5.trans qXt)⟩

end Go.Proofs.Ytpgkhjmboiepcaa

/- The law FnFieldView holds for all bytes: the call returns true, and its argument reads as it did. No condition. -/
namespace Go.Proofs.Ytpgkhjmboiepcaa.rowFnFieldView
open Go.ChangeShapes Go.WideShapes Go.ChangeAt Go.RowKit
set_option linter.unusedVariables false

set_option maxHeartbeats 1000000 in
set_option maxRecDepth 100000 in
theorem lifted (os : Os) (started : os.Started) (H : Type) (enc : TypeId × Value → H) :
    ReturnsInHanded {} Try.checked os 4 .any (Rows.fnFieldViewSpec.pre6 enc Try.prog Try.f4 Rows.fnFieldViewRow.domain false) (Rows.fnFieldViewSpec.post enc Try.prog Try.f4 false true false false) := by
  refine returnsInHanded_of_change (C := Try.checked) own started qKr Try.func4
    (ChangeSpec.witness6 (enc := enc) (C := Try.checked) false ⟨#[], #[.slice none 0 0], []⟩ 8 qKr qKr qKr qKr) ?_
  intro W base args ds gs before hval0 hW hcnd _
  have hval : ∀ (j : Nat) t v, Try.f4.params[j]? = some t → args[j]? = some v → Value.okWide Try.prog W .any base t v := hval0
  have hW' := hW
  obtain ⟨p, q, hA0, hV, rfl, hfz, hnd⟩ := hW
  have hA : DataW.TrodAll enc Try.prog W 0 (fun _ => true) true Try.f4.params.toList args.toList ds p := hA0
  rw [Try.params4] at hA hval
  obtain ⟨v0, vs0, d0, ds0, p0, q0, hargs0, rfl, rfl, h0, r0⟩ := trodAll_cons hA
  obtain ⟨rfl, rfl, rfl⟩ := trodAll_nil r0
  obtain rfl : args = #[v0] := by cases args; simp_all
  obtain ⟨rfl, rfl⟩ := trodVars_none hV
  obtain ⟨a0, len0, cap0, rfl⟩ := okWide_slice Try.underlying22 (hval 0 22 v0 rfl rfl)
  have k0 := h0
  have lt0 : ∀ x ∈ p0, x.block < W.heap.size := by obtain ⟨m, hm⟩ := k0; exact DataW.trod_lt m _ _ _ hm
  have w0 : BysIn W a0 len0 cap0 := by
    obtain ⟨fuel, hf⟩ := h0
    rcases open_ints Try.underlying22 Try.underlying5 qKr hf with ⟨hcs, _⟩ | ⟨x, l, c, zs, hcs, _, hl, hm, hz, _, hcell, hwz⟩
    · simp [Value.cells] at hcs
      obtain ⟨rfl, rfl, rfl⟩ := hcs
      exact ⟨Nat.le_refl _, by simp, fun i hi => absurd hi (by simp)⟩
    · simp [Value.cells] at hcs
      obtain ⟨rfl, rfl, rfl⟩ := hcs
      have hzl : zs.length = cap0 := by simpa using hz
      exact bys_of_cells hl hm hzl hcell hwz
  clear hA0 hval0
  refine (lawFnFieldView_c a0 len0 cap0 W w0).mono fun e W' ⟨he, bel⟩ => ?_
  subst he
  exact ⟨_, rfl, _, _, _, [], _, [], hW', trodAll_mk1 (shut_bool Try.underlying4 _), (trodAll_cons_mk (Below.trod laidOut qKr (of_decide_eq_true qKr) k0 bel lt0) trodAll_mk0), rfl, Below.frame bel _, fun h => by cases h⟩

set_option maxHeartbeats 2000000 in
theorem closed : joinedFacts Try.checked.prog 4 Try.f4 Rows.fnFieldViewSpec Rows.fnFieldViewRow = true :=
  facts.all qKr qKr qKr qKr qKr (by as_aux_lemma => kernel_rfl) (by as_aux_lemma => kernel_rfl) (by as_aux_lemma => kernel_rfl) (by as_aux_lemma => kernel_rfl)
    (by as_aux_lemma => kernel_rfl) (by as_aux_lemma => kernel_rfl) rfl rfl rfl rfl qKr qKr (by as_aux_lemma => kernel_rfl) (by as_aux_lemma => kernel_rfl)

theorem named : Try.pinned.checked.prog.funcNamed Rows.fnFieldViewRow.func = some 4 := by kernel_rfl

theorem over : Rows.fnFieldViewRow.holds Try.pinned (OpenSpec.ofChange Rows.fnFieldViewSpec) :=
  OpenClaim.holds_of_wide 4 Try.f4 rfl rfl rfl rfl rfl rfl rfl ⟨rfl, rfl, rfl, rfl, rfl⟩ rfl rfl rfl rfl rfl named Try.func4 closed
    (of_decide_eq_true qKr) (by unfold Func.isWrapper; exact ⟨rfl, rfl⟩)
    (fun os started H enc _ => lifted os started H enc)

theorem proved : Rows.FnFieldViewSaid := over

end Go.Proofs.Ytpgkhjmboiepcaa.rowFnFieldView
