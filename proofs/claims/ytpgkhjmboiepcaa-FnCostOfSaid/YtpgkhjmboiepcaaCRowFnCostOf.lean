/- Texts of these proofs put together: TnD, LcA, PoC, LawFnCostOf, RowFnCostOf. No condition. -/
import Derived.Test.YtpgkhjmboiepcaaM5
import Derived.Test.YtpgkhjmboiepcaaM4
import Derived.Test.YtpgkhjmboiepcaaM2
set_option linter.unusedVariables false
set_option linter.unusedSimpArgs false
/- Walks: ExtentsOf of the program. -/
namespace Go.Proofs.Ytpgkhjmboiepcaa
open Go.RowKit
set_option linter.unusedVariables false
set_option maxRecDepth 100000

set_option maxHeartbeats 1600000 in
theorem implExtentsOf_c (ts : List Ten) (ls : List Lst) (tv lv : Value) (w : World) (l1 l2 : Nat) (h1 : Tens w l1 tv ts) (h2 : Lsts w l2 lv ls) :
    Calls Try.prog 28 #[tv, lv] w (PIntsB w (extL (extA ts ls)) (extA ts ls).isSome) := by
  obtain ⟨p0, c0, rfl⟩ := h1.form
  obtain ⟨p1, c1, rfl⟩ := h2.form
  have hlt1 := h1.len
  have hlt2 := h2.len
  go_enter Try.func28, Try.ntmps28
  go_wp2_with fail
  refine (extentsOf_c ts ls (.slice p0 ts.length c0) (.slice p1 ls.length c1) _ _ _ (h1.ext qXt) (h2.ext qXt)).mono ?_
  rintro e w1 ⟨fv1, rfl, i2, i2z, xw1⟩
  have Lw1 : Ext w w1 := Ext.trans qXt xw1
  have Xw1 : Ext w w1 := Lw1
  have s_w1 : w.heap.size ≤ w1.heap.size := Xw1.size
  clear xw1
  obtain ⟨afv1, cfv1, rfl⟩ := i2.form
  go_wp2_with fail
  go_ret2
  exact ⟨_, rfl, i2.lower (by omega), i2z.lower (by omega), (Xw1.trans qXt)⟩


end Go.Proofs.Ytpgkhjmboiepcaa

/- FnCostOf returns true, once DrawCostOf hands back tensors and labels: the law without its draw. -/
namespace Go.Proofs.Ytpgkhjmboiepcaa
open Go.RowKit
set_option linter.unusedVariables false
set_option maxRecDepth 100000

/-- tensors and labels are drawn -/
def PDTL (w : World) (e : Ending) (w' : World) : Prop := ∃ (ts : List Ten) (ls : List Lst) (p0 p1 : Option Addr) (c0 c1 : Nat), e = .returned (.tuple #[.slice p0 ts.length c0, .slice p1 ls.length c1]) ∧
  Tens w' 0 (.slice p0 ts.length c0) ts ∧ Lsts w' 0 (.slice p1 ls.length c1) ls ∧ Ext w w'
theorem spK_pos {x : List Int} {k : Nat} {v : Int} (h : x.getD k 0 = v) (hv : 0 ≤ v) : spK x (k+1) = spK x k * v := by
  show spK x k * (if x.getD k 0 < 0 then 1 else x.getD k 0) = _
  rw [h, if_neg (by omega)]
theorem spK_neg {x : List Int} {k : Nat} {v : Int} (h : x.getD k 0 = v) (hv : ¬ 0 ≤ v) : spK x (k+1) = spK x k := by
  show spK x k * (if x.getD k 0 < 0 then 1 else x.getD k 0) = _
  rw [h, if_pos (by omega), Int.mul_one]
set_option maxHeartbeats 6400000 in
theorem lawFnCostOf_of (hd : ∀ (a : Option Addr) (n cap : Nat) (w : World), BysIn w a n cap → Calls Try.prog 25 #[.slice a n cap] w (PDTL w)) (a : Option Addr) (n cap : Nat) (w : World) (hb : BysIn w a n cap) :
    Calls Try.prog 5 #[.slice a n cap] w fun e w' => e = .returned (.bool true) ∧ Ext w w' := by
  have hcm := hb.1
  have hcm2 := hb.2.1
  unfold maxLen at hcm2
  go_enter Try.func5, Try.ntmps5
  by_cases hc1 : (1048576 : Int) < (n : Int)
  · go_wp2_with fail
    go_ret
    exact ⟨rfl, qXo⟩
  · go_wp2_with fail
    refine (hd a n cap _ hb).mono ?_
    rintro e w1 ⟨ts, ls, p0, p1, c0, c1, rfl, h1, h2, xw1⟩
    have X1 : Ext w w1 := Ext.trans qXt xw1
    clear xw1 hb hcm hcm2 hd
    replace h1 := Lib.hid h1
    replace h2 := Lib.hid h2
    obtain ⟨c, hc⟩ : ∃ c, cstA ts ls = c := ⟨_, rfl⟩
    replace hc := Lib.hid hc
    go_wp2_with fail
    refine (implCostOf_c ts ls _ _ _ 0 0 (h1.out.ext qXt) (h2.out.ext qXt)).mono ?_
    rintro e w2 ⟨rfl, x2⟩
    rw [hc.out]
    have E2 : Ext w1 w2 := Ext.trans qXt x2
    clear x2
    go_wp2_with fail
    refine (specCostOf_c ts ls _ _ _ 0 0 (h1.out.ext (E2.trans qXt)) (h2.out.ext (E2.trans qXt))).mono ?_
    rintro e w3 ⟨rfl, x3⟩
    rw [hc.out]
    have E3 : Ext w1 w3 := E2.trans (Ext.trans qXt x3)
    clear x3
    have hcc : (c != c) = false := by simp
    by_cases hneg : c < 0
    · go_wp2_with fail
      refine (specCostOf_c ts ls _ _ _ 0 0 (h1.out.ext (E3.trans qXt)) (h2.out.ext (E3.trans qXt))).mono ?_
      rintro e w4 ⟨rfl, x4⟩
      rw [hc.out]
      have E4 : Ext w1 w4 := E3.trans (Ext.trans qXt x4)
      go_wp2_with fail
      go_ret
      exact ⟨by simp, (X1.trans E4).trans qXt⟩
    · cases he : extA ts ls with
      | none =>
        have h7 := hc.out
        rw [cstA_none he] at h7
        omega
      | some x =>
        have hcx : Hid (spK x 5 = c) := Lib.hid (by rw [← cstA_some he]; exact hc.out)
        obtain ⟨f5, f1, f2, f3, f4, f6⟩ := extA_fact he
        have h5 : 5 ≤ x.length := by omega
        have h6 : x.length ≤ 5 := by omega
        have hx60 : Hid (∀ k, k < 5 → x.getD k 0 ≤ 60) := Lib.hid (fun k hk => (f6 k hk).2.1)
        replace he := Lib.hid he
        clear f1 f2 f3 f4 f5 f6 hc
        go_wp2_with fail
        refine (pie_some he.out (implExtentsOf_c ts ls _ _ _ 0 0 (h1.out.ext (E3.trans qXt)) (h2.out.ext (E3.trans qXt)))).mono ?_
        rintro e w4 ⟨fv, rfl, i2, -, x4⟩
        have E4 : Ext w1 w4 := E3.trans (Ext.trans qXt x4)
        obtain ⟨af, cf, rfl⟩ := i2.form
        replace i2 := Lib.hid i2
        clear x4 h1 h2
        go_wp2_with fail
        go_loopw [8, 9] (fun m i wr => ∃ (k : Nat), k ≤ x.length ∧ i = .int .i64 k ∧ m = .int .i64 (spK x k) ∧ Ext w4 wr) (fun _ i _ => x.length - (intOf i).toNat)
        case atStart => exact ⟨0, Nat.zero_le _, rfl, rfl, qXt⟩
        case round =>
          obtain ⟨k, hk, rfl, rfl, Xr⟩ := hrel
          by_cases hlt : k < x.length
          · have hkI : (k : Int) < x.length := by omega
            obtain ⟨bl, ol, rfl, e0⟩ := (i2.out.ext Xr).at k hlt
            obtain ⟨v, hv⟩ : ∃ v, x.getD k 0 = v := ⟨_, rfl⟩
            rw [hv] at e0
            have hb1 := spK_bd hx60.out (k+1) (by omega)
            have hb2 := pow60 (k+1) (by omega)
            by_cases hp : 0 ≤ v
            · have hs := spK_pos hv hp
              rw [hs] at hb1
              replace hs := Lib.hid hs
              replace hv := Lib.hid hv
              have hw9 : IntKind.i64.wrap (spK x k * v) = spK x k * v := IntWalk.i64_in _ (by omega)
              clear hb1 hb2 i2
              go_wp2_with fail
              go_roundw
              case rel => exact ⟨k + 1, by omega, by go_num, by rw [hs.out], Xr.trans qXt⟩
              case measure => simp [intOf]; omega
            · have hs := spK_neg hv hp
              replace hs := Lib.hid hs
              replace hv := Lib.hid hv
              clear hb1 hb2 i2
              go_wp2_with fail
              go_roundw
              case rel => exact ⟨k + 1, by omega, by go_num, by rw [hs.out], Xr.trans qXt⟩
              case measure => simp [intOf]; omega
          · have hk5 : k = 5 := by omega
            subst hk5
            have hlI : ¬ (5 : Int) < (x.length : Int) := by omega
            rw [hcx.out]
            go_wp2_with fail
            go_ret
            exact ⟨by simp, ((X1.trans E4).trans Xr).trans qXt⟩
end Go.Proofs.Ytpgkhjmboiepcaa

/- Walks: draws of tensors and labels. -/
namespace Go.Proofs.Ytpgkhjmboiepcaa
open Go.RowKit
set_option linter.unusedVariables false
set_option maxRecDepth 100000

set_option maxHeartbeats 3200000 in
theorem drawExtentsOf_c (a : Option Addr) (n cap : Nat) (w : World) (hb : BysIn w a n cap) :
    Calls Try.prog 63 #[.slice a n cap] w (PDTL w) := by
  go_enter Try.func63, Try.ntmps63
  go_wp2_with fail
  refine (newReader_c a n cap _ (hb.ext qXt)).mono ?_
  rintro e w1 ⟨rfl, hr, xw1⟩
  have Lw1 : Ext w w1 := Ext.trans qXt xw1
  have Xw1 : Ext w w1 := Lw1
  have s_w1 : w.heap.size ≤ w1.heap.size := Xw1.size
  clear xw1
  have z1 := hr.lt
  clear hb
  go_wp2_with fail
  refine (oneLit_c #[.int .i64 2, .int .i64 1, .int .i64 3] 3 _ _ _ _ hr (by omega) (by rfl) (by rfl) (by constructor <;> simp) (by first | rfl | omega | simp)).mono ?_
  rintro e w2 ⟨m, rfl, hm, Rw2, Cw2⟩
  have Ew2 : Ext w1 (w1.alloc (.cells #[.int .i64 2, .int .i64 1, .int .i64 3] 3)) := qXt
  have e_w2 := Ew2.size
  have zc_w2 := Cw2.size
  have Xw2 : Ext w w2 := Rch.toExt' Cw2 (by omega) (Xw1.trans Ew2)
  have s_w2 : w.heap.size ≤ w2.heap.size := Xw2.size
  clear hr Cw2 Ew2
  replace hm : 1 ≤ m ∧ m ≤ 3 := by simp [litL] at hm; omega
  obtain ⟨many, rfl⟩ : ∃ q : Nat, m = q := ⟨m.toNat, by omega⟩
  go_wp2_with fail
  refine (productOf_c _ _ many _ Rw2 (by omega) (by omega) (by omega)).mono ?_
  rintro e w3 ⟨ts, ls, out, p0, p1, p2, c0, c1, c2, rfl, iT, iL, iO, ho, Rw3, Cw3⟩
  have zc_w3 := Cw3.size
  have Xw3 : Ext w w3 := Rch.toExt' Cw3 (by omega) (Xw2)
  have s_w3 : w.heap.size ≤ w3.heap.size := Xw3.size
  clear Rw2 Cw3
  go_wp2_with fail
  refine bodyPost_ret (v := .tuple #[.slice p0 ts.length c0, .slice p1 ls.length c1]) (by simp only [results, Try.results63]; go_simp) rfl ?_
  exact ⟨ts, ls, _, _, _, _, rfl, iT.lower (Nat.zero_le _), iL.lower (Nat.zero_le _), Xw3⟩
set_option maxHeartbeats 3200000 in
theorem drawCostOf_c (a : Option Addr) (n cap : Nat) (w : World) (hb : BysIn w a n cap) :
    Calls Try.prog 25 #[.slice a n cap] w (PDTL w) := by
  go_enter Try.func25, Try.ntmps25
  go_wp2_with fail
  refine (drawExtentsOf_c a n cap _ hb).mono ?_
  rintro e w1 ⟨ts, ls, p0, p1, c0, c1, rfl, iT, iL, x1⟩
  go_wp2_with fail
  refine bodyPost_ret (v := .tuple #[.slice p0 ts.length c0, .slice p1 ls.length c1]) (by simp only [results, Try.results25]; go_simp) rfl ?_
  exact ⟨ts, ls, _, _, _, _, rfl, iT, iL, x1⟩

end Go.Proofs.Ytpgkhjmboiepcaa

/- FnCostOf returns true. -/
namespace Go.Proofs.Ytpgkhjmboiepcaa
open Go.RowKit
set_option linter.unusedVariables false
set_option maxRecDepth 100000

theorem lawFnCostOf_c (a : Option Addr) (n cap : Nat) (w : World) (hb : BysIn w a n cap) :
    Calls Try.prog 5 #[.slice a n cap] w fun e w' => e = .returned (.bool true) ∧ Ext w w' := lawFnCostOf_of drawCostOf_c a n cap w hb

end Go.Proofs.Ytpgkhjmboiepcaa

/- The law FnCostOf holds for all bytes: the call returns true, and its argument reads as it did. No condition. -/
namespace Go.Proofs.Ytpgkhjmboiepcaa.rowFnCostOf
open Go.ChangeShapes Go.WideShapes Go.ChangeAt Go.RowKit
set_option linter.unusedVariables false

set_option maxHeartbeats 1000000 in
set_option maxRecDepth 100000 in
theorem lifted (os : Os) (started : os.Started) (H : Type) (enc : TypeId × Value → H) :
    ReturnsInHanded {} Try.checked os 5 .any (Rows.fnCostOfSpec.pre6 enc Try.prog Try.f5 Rows.fnCostOfRow.domain false) (Rows.fnCostOfSpec.post enc Try.prog Try.f5 false true false false) := by
  refine returnsInHanded_of_change (C := Try.checked) own started qKr Try.func5
    (ChangeSpec.witness6 (enc := enc) (C := Try.checked) false ⟨#[], #[.slice none 0 0], []⟩ 8 qKr qKr qKr qKr) ?_
  intro W base args ds gs before hval0 hW hcnd _
  have hval : ∀ (j : Nat) t v, Try.f5.params[j]? = some t → args[j]? = some v → Value.okWide Try.prog W .any base t v := hval0
  have hW' := hW
  obtain ⟨p, q, hA0, hV, rfl, hfz, hnd⟩ := hW
  have hA : DataW.TrodAll enc Try.prog W 0 (fun _ => true) true Try.f5.params.toList args.toList ds p := hA0
  rw [Try.params5] at hA hval
  obtain ⟨v0, vs0, d0, ds0, p0, q0, hargs0, rfl, rfl, h0, r0⟩ := trodAll_cons hA
  obtain ⟨rfl, rfl, rfl⟩ := trodAll_nil r0
  obtain rfl : args = #[v0] := by cases args; simp_all
  obtain ⟨rfl, rfl⟩ := trodVars_none hV
  obtain ⟨a0, len0, cap0, rfl⟩ := okWide_slice Try.underlying22 (hval 0 22 v0 rfl rfl)
  have k0 := h0
  have lt0 : ∀ x ∈ p0, x.block < W.heap.size := by obtain ⟨m, hm⟩ := k0; exact DataW.trod_lt m _ _ _ hm
  have w0 : BysIn W a0 len0 cap0 := by
    obtain ⟨fuel, hf⟩ := h0
    rcases open_ints Try.underlying22 Try.underlying5 qKr hf with ⟨hcs, _⟩ | ⟨x, l, c, zs, hcs, _, hl, hm, hz, _, hcell, hwz⟩
    · simp [Value.cells] at hcs
      obtain ⟨rfl, rfl, rfl⟩ := hcs
      exact ⟨Nat.le_refl _, by simp, fun i hi => absurd hi (by simp)⟩
    · simp [Value.cells] at hcs
      obtain ⟨rfl, rfl, rfl⟩ := hcs
      have hzl : zs.length = cap0 := by simpa using hz
      exact bys_of_cells hl hm hzl hcell hwz
  clear hA0 hval0
  refine (lawFnCostOf_c a0 len0 cap0 W w0).mono fun e W' ⟨he, bel⟩ => ?_
  subst he
  exact ⟨_, rfl, _, _, _, [], _, [], hW', trodAll_mk1 (shut_bool Try.underlying4 _), (trodAll_cons_mk (Below.trod laidOut qKr (of_decide_eq_true qKr) k0 bel lt0) trodAll_mk0), rfl, Below.frame bel _, fun h => by cases h⟩

set_option maxHeartbeats 2000000 in
theorem closed : joinedFacts Try.checked.prog 5 Try.f5 Rows.fnCostOfSpec Rows.fnCostOfRow = true :=
  facts.all qKr qKr qKr qKr qKr (by as_aux_lemma => kernel_rfl) (by as_aux_lemma => kernel_rfl) (by as_aux_lemma => kernel_rfl) (by as_aux_lemma => kernel_rfl)
    (by as_aux_lemma => kernel_rfl) (by as_aux_lemma => kernel_rfl) rfl rfl rfl rfl qKr qKr (by as_aux_lemma => kernel_rfl) (by as_aux_lemma => kernel_rfl)

theorem named : Try.pinned.checked.prog.funcNamed Rows.fnCostOfRow.func = some 5 := by kernel_rfl

theorem over : Rows.fnCostOfRow.holds Try.pinned (OpenSpec.ofChange Rows.fnCostOfSpec) :=
  OpenClaim.holds_of_wide 5 Try.f5 rfl rfl rfl rfl rfl rfl rfl ⟨rfl, rfl, rfl, rfl, rfl⟩ rfl rfl rfl rfl rfl named Try.func5 closed
    (of_decide_eq_true qKr) (by unfold Func.isWrapper; exact ⟨rfl, rfl⟩)
    (fun os started H enc _ => lifted os started H enc)

theorem proved : Rows.FnCostOfSaid := over

end Go.Proofs.Ytpgkhjmboiepcaa.rowFnCostOf
