/- Texts of these proofs put together: KlP, KlA, KlB, KlD, KlC, KlE, RngD, LkA, PoD, LawFnKeptLabels, RowFnKeptLabels. No condition. -/
import Derived.Test.YtpgkhjmboiepcaaM5
import Derived.Test.YtpgkhjmboiepcaaM1
import Derived.Test.YtpgkhjmboiepcaaM4
import Derived.Test.YtpgkhjmboiepcaaM2
import Derived.Test.YtpgkhjmboiepcaaM3
set_option linter.unusedVariables false
set_option linter.unusedSimpArgs false
/- Plain laws: the labels that are kept. No condition. -/
namespace Go.Proofs.Ytpgkhjmboiepcaa
open Go.RowKit
set_option linter.unusedVariables false

/-- the labels of the lists ahead of the n-th, but of i and j -/
def othL (ls : List Lst) (i j : Nat) (n : Nat) : List Int := (List.range n).flatMap fun m => if m = i ∨ m = j then [] else (lstAt ls m).s
theorem othL_succ (ls : List Lst) (i j n : Nat) : othL ls i j (n+1) = othL ls i j n ++ (if n = i ∨ n = j then [] else (lstAt ls n).s) := by
  unfold othL; rw [List.range_succ, List.flatMap_append]; simp
def needL (ls : List Lst) (out : List Int) (i j n : Nat) : List Int := out ++ othL ls i j n
theorem needL_skip {ls : List Lst} {out : List Int} {i j n : Nat} (h : n = i ∨ n = j) : needL ls out i j (n+1) = needL ls out i j n := by
  unfold needL; rw [othL_succ, if_pos h, List.append_nil]
theorem needL_go {ls : List Lst} {out : List Int} {i j n : Nat} (h1 : ¬ n = i) (h2 : ¬ n = j) : needL ls out i j (n+1) = needL ls out i j n ++ (lstAt ls n).s := by
  unfold needL; rw [othL_succ, if_neg (by omega), List.append_assoc]
theorem needL_zero (ls : List Lst) (out : List Int) (i j : Nat) : needL ls out i j 0 = out := by unfold needL othL; simp
theorem needL_len {ls : List Lst} {out : List Int} {i j : Nat} (hb : labsB ls) (n : Nat) (hn : n ≤ ls.length) : (needL ls out i j n).length ≤ out.length + 60 * n := by
  induction n with
  | zero => rw [needL_zero]; omega
  | succ n ih =>
    have h := ih (by omega)
    by_cases hc : n = i ∨ n = j
    · rw [needL_skip hc]; omega
    · rw [needL_go (by omega) (by omega), List.length_append]
      have := (hb n (by omega)).2
      omega
/-- the number is needed: by the result or by one of the lists ahead of the n-th -/
def needB (ls : List Lst) (out : List Int) (i j : Nat) (x : Int) (n : Nat) : Bool := hasB (needL ls out i j n) x
theorem needB_zero (ls : List Lst) (out : List Int) (i j : Nat) (x : Int) : needB ls out i j x 0 = hasB out x := by unfold needB; rw [needL_zero]
theorem needB_skip {ls : List Lst} {out : List Int} {i j n : Nat} {x : Int} (h : n = i ∨ n = j) : needB ls out i j x (n+1) = needB ls out i j x n := by unfold needB; rw [needL_skip h]
theorem needB_go {ls : List Lst} {out : List Int} {i j n : Nat} {x : Int} (h1 : ¬ n = i) (h2 : ¬ n = j) : needB ls out i j x (n+1) = (needB ls out i j x n || hasB (lstAt ls n).s x) := by
  unfold needB hasB; rw [needL_go h1 h2]; simp
theorem needB_yes {ls : List Lst} {out : List Int} {i j n : Nat} {x : Int} (h : needB ls out i j x n = true) : needB ls out i j x (n+1) = true := by
  by_cases hc : n = i ∨ n = j
  · rw [needB_skip hc]; exact h
  · rw [needB_go (by omega) (by omega), h]; rfl
/-- the label k is kept -/
def kptP (ls : List Lst) (out : List Int) (i j : Nat) (k : Nat) : Bool := (hasB (lstAt ls i).s k || hasB (lstAt ls j).s k) && needB ls out i j k ls.length
def kptL (ls : List Lst) (out : List Int) (i j : Nat) : List Int := labN (kptP ls out i j) 5
theorem kpt_skip {ls : List Lst} {out : List Int} {i j k : Nat} (h : kptP ls out i j k = false) : labN (kptP ls out i j) (k+1) = labN (kptP ls out i j) k := by rw [labN_succ, h]; rfl
theorem kpt_go {ls : List Lst} {out : List Int} {i j k : Nat} (h : kptP ls out i j k = true) : labN (kptP ls out i j) (k+1) = labN (kptP ls out i j) k ++ [(k : Int)] := by rw [labN_succ, h]; rfl
/-- the labels of i and of j, each once -/
def twoL (ls : List Lst) (i j : Nat) : List Int := alL [⟨(lstAt ls i).s⟩, ⟨(lstAt ls j).s⟩]
theorem twoL_mem {ls : List Lst} {i j : Nat} {x : Int} : x ∈ twoL ls i j ↔ x ∈ (lstAt ls i).s ∨ x ∈ (lstAt ls j).s := by
  unfold twoL
  rw [(alL_spec _).2 x]
  constructor
  · rintro ⟨m, hm, hx⟩
    match m, hm, hx with
    | 0, _, hx => exact .inl hx
    | 1, _, hx => exact .inr hx
    | n + 2, hm, _ => exact absurd hm (by simp)
  · rintro (h | h)
    · exact ⟨0, by simp, h⟩
    · exact ⟨1, by simp, h⟩
def keptF (ls : List Lst) (out : List Int) (i j k : Nat) : List Int := ((twoL ls i j).take k).filter fun x => needB ls out i j x ls.length
theorem keptF_go {ls : List Lst} {out : List Int} {i j k : Nat} {x : Int} (hk : k < (twoL ls i j).length) (hx : (twoL ls i j).getD k 0 = x) (h : hasB (needL ls out i j ls.length) x = true) : keptF ls out i j (k+1) = keptF ls out i j k ++ [x] := by
  have h' : needB ls out i j x ls.length = true := h
  unfold keptF
  have e : (twoL ls i j)[k] = x := by rw [← hx]; simp [hk]
  rw [List.take_succ_eq_append_getElem hk, List.filter_append, e]
  simp [h']
theorem keptF_skip {ls : List Lst} {out : List Int} {i j k : Nat} {x : Int} (hk : k < (twoL ls i j).length) (hx : (twoL ls i j).getD k 0 = x) (h : hasB (needL ls out i j ls.length) x = false) : keptF ls out i j (k+1) = keptF ls out i j k := by
  have h' : ¬ needB ls out i j x ls.length = true := by unfold needB; rw [h]; simp
  unfold keptF
  have e : (twoL ls i j)[k] = x := by rw [← hx]; simp [hk]
  rw [List.take_succ_eq_append_getElem hk, List.filter_append, e]
  simp [h']
theorem keptF_len (ls : List Lst) (out : List Int) (i j k : Nat) : (keptF ls out i j k).length ≤ k := by
  unfold keptF
  refine Nat.le_trans (List.length_filter_le _ _) ?_
  rw [List.length_take]; omega
theorem hasB_mem {l : List Int} {x : Int} : hasB l x = true ↔ x ∈ l := by unfold hasB; simp
theorem kept_law {ls : List Lst} {out : List Int} {i j : Nat} (hb : labsB ls) (hi : i < ls.length) (hj : j < ls.length) : keptF ls out i j (twoL ls i j).length = kptL ls out i j := by
  unfold keptF
  rw [List.take_length]
  refine lab5_of (((alL_spec _).1).filter _) fun x => ?_
  rw [List.mem_filter, twoL_mem]
  constructor
  · rintro ⟨h1, h2⟩
    have hx : 0 ≤ x ∧ x ≤ 4 := by
      rcases h1 with h | h
      · exact labB_mem (hb i hi).1 h
      · exact labB_mem (hb j hj).1 h
    have e : ((x.toNat : Nat) : Int) = x := by omega
    refine ⟨x.toNat, by omega, ?_, e.symm⟩
    unfold kptP
    rw [e, h2, Bool.and_true, Bool.or_eq_true, hasB_mem, hasB_mem]
    exact h1
  · rintro ⟨k, hk, h, rfl⟩
    unfold kptP at h
    rw [Bool.and_eq_true, Bool.or_eq_true, hasB_mem, hasB_mem] at h
    exact h
theorem kptL_len (ls : List Lst) (out : List Int) (i j : Nat) : (kptL ls out i j).length ≤ 5 := labN_le _ _
theorem twoL_len {ls : List Lst} {i j : Nat} (hb : labsB ls) (hi : i < ls.length) (hj : j < ls.length) : (twoL ls i j).length ≤ 120 := by
  unfold twoL alL
  have h1 := compact_len_le (sortL (catL [⟨(lstAt ls i).s⟩, ⟨(lstAt ls j).s⟩] 2))
  rw [sortL_len] at h1
  have h2 := catL_len (ls := [⟨(lstAt ls i).s⟩, ⟨(lstAt ls j).s⟩]) (fun m hm => by
    match m, hm with
    | 0, _ => exact hb i hi
    | 1, _ => exact hb j hj
    | n + 2, hm => exact absurd hm (by simp)) 2 (Nat.le_refl _)
  exact Nat.le_trans h1 h2
theorem two_labs {ls : List Lst} {i j : Nat} (hb : labsB ls) (hi : i < ls.length) (hj : j < ls.length) : labsB [⟨(lstAt ls i).s⟩, ⟨(lstAt ls j).s⟩] := fun m hm => by
  match m, hm with
  | 0, _ => exact hb i hi
  | 1, _ => exact hb j hj
  | n + 2, hm => exact absurd hm (by simp)
/-- where a number stands, or -1: whether it is there -/
theorem place_has (xs : List Int) (x : Int) : hasB xs x = decide (0 ≤ placeL xs x) := (placeL_ge xs x).symm
theorem place_yes {xs : List Int} {x : Int} (h : ¬ placeL xs x < 0) : hasB xs x = true := by rw [place_has]; exact decide_eq_true (by omega)
theorem place_no {xs : List Int} {x : Int} (h : placeL xs x < 0) : hasB xs x = false := by rw [place_has]; exact decide_eq_false (by omega)
/-- what KeptLabels returns -/
def kptA (ts : List Ten) (ls : List Lst) (out : List Int) (i j : Int) : List Int := if (extA ts ls).isSome = true ∧ labB out = true ∧ (0 ≤ i ∧ i < ts.length ∧ 0 ≤ j ∧ j < ts.length ∧ ¬ i = j) then kptL ls out i.toNat j.toNat else []
theorem kptA_none {ts : List Ten} {ls : List Lst} {out : List Int} {i j : Int} (h : extA ts ls = none) : kptA ts ls out i j = [] := by unfold kptA; rw [if_neg]; rw [h]; simp
theorem kptA_pair {ts : List Ten} {ls : List Lst} {out : List Int} {i j : Int} (h : ¬ (0 ≤ i ∧ i < ts.length ∧ 0 ≤ j ∧ j < ts.length ∧ ¬ i = j)) : kptA ts ls out i j = [] := by unfold kptA; rw [if_neg]; rintro ⟨-, -, h2⟩; exact h h2
theorem kptA_lab {ts : List Ten} {ls : List Lst} {out : List Int} {i j : Int} (h : labB out = false) : kptA ts ls out i j = [] := by unfold kptA; rw [if_neg]; rintro ⟨-, h2, -⟩; rw [h] at h2; cases h2
theorem kptA_yes {ts : List Ten} {ls : List Lst} {out x : List Int} {i j : Int} (h : extA ts ls = some x) (h2 : labB out = true) (h3 : 0 ≤ i ∧ i < ts.length ∧ 0 ≤ j ∧ j < ts.length ∧ ¬ i = j) : kptA ts ls out i j = kptL ls out i.toNat j.toNat := by unfold kptA; rw [if_pos ⟨by rw [h]; rfl, h2, h3⟩]
theorem kptA_len (ts : List Ten) (ls : List Lst) (out : List Int) (i j : Int) : (kptA ts ls out i j).length ≤ 5 := by
  unfold kptA; split
  · exact kptL_len _ _ _ _
  · simp
end Go.Proofs.Ytpgkhjmboiepcaa

/- Walks: the labels that are kept (the program). No condition. -/
namespace Go.Proofs.Ytpgkhjmboiepcaa
open Go.RowKit
set_option linter.unusedVariables false
set_option maxRecDepth 100000

/-- a literal of two rows -/
theorem Lsts.lit2 {w : World} {l1 l2 : Nat} {u v : Value} {a b : List Int} (h1 : Ints w l1 u a) (h2 : Ints w l2 v b) :
    Lsts (w.alloc (.cells #[u, v] 23)) 0 (.slice (some ⟨w.heap.size, 0, none⟩) 2 2) [⟨a⟩, ⟨b⟩] := by
  have hO : OwnC (w.alloc (.cells #[u, v] 23)) 0 23 1 (.slice (some ⟨w.heap.size, 0, none⟩) 2 2) [[u], [v]] :=
    OwnC.made w #[u, v] 0 (Nat.zero_le _) (by unfold maxLen; simp) rfl (fun c hc => by
      simp only [List.mem_cons, List.not_mem_nil, or_false] at hc
      rcases hc with rfl | rfl <;> rfl)
  have k1 := h1.ext (show Ext w (w.alloc (.cells #[u, v] 23)) from qXt)
  have k2 := h2.ext (show Ext w (w.alloc (.cells #[u, v] 23)) from qXt)
  refine Lsts.ofRow (rs := [⟨a⟩, ⟨b⟩]) (R := fun p => if p = 0 then u else v) (lo2 := 0) hO (fun i hi => ?_) (by simp) 0 (Nat.le_refl _) (Nat.le_refl _)
  match i, hi with
  | 0, _ => exact k1.lower (Nat.zero_le _)
  | 1, _ => exact k2.lower (Nat.zero_le _)
  | n + 2, hi => exact absurd hi (by simp)

/-- the row that is kept as it grows: the literal at g8, or a row of its own -/
def KeptV (w : World) (B g8 : Nat) (v : Value) (xs : List Int) : Prop := (xs = [] ∧ v = .slice (some ⟨g8, 0, none⟩) 0 0) ∨ OwnI w B v xs
theorem KeptV.ext {w w' : World} {B g8 : Nat} {v : Value} {xs : List Int} (h : KeptV w B g8 v xs) (hx : Ext w w') : KeptV w' B g8 v xs := h.imp id fun h => h.ext hx
theorem KeptV.done {w0 w : World} {B g8 : Nat} {v : Value} {xs ys : List Int} (h : KeptV w B g8 v xs) (e : xs = ys) (hB : w0.heap.size ≤ B) (hl : ys.length ≤ 4194304) (hx : Ext w0 w) : PInts w0 ys (.returned v) w := by
  subst e
  rcases h with ⟨rfl, rfl⟩ | h
  · exact ⟨_, rfl, ⟨_, 0, rfl, by simp, by unfold maxLen; simp, ⟨by simp, fun h => by cases h⟩, fun i hi => absurd hi (by simp)⟩, .inl ⟨rfl, _, 0, rfl, by simp, fun h => by cases h⟩, hx⟩
  · exact PInts.mk h hB hl hx
theorem two_c (ls : List Lst) (i j : Nat) (v : Value) (w : World) (lo : Nat) (h : Lsts w lo v [⟨(lstAt ls i).s⟩, ⟨(lstAt ls j).s⟩]) (hb : Hid (labsB [⟨(lstAt ls i).s⟩, ⟨(lstAt ls j).s⟩])) :
    Calls Try.prog 66 #[v] w (PInts w (twoL ls i j)) := allLabels_c _ v w lo h hb (by simp)

set_option maxHeartbeats 6400000 in
theorem keptLabels_c (ls : List Lst) (out : List Int) (lv ov : Value) (i j : Nat) (w : World) (l1 l2 : Nat) (h1 : Lsts w l1 lv ls) (h2 : Ints w l2 ov out) (hi : i < ls.length) (hj : j < ls.length) (hb : Hid (labsB ls)) (h8 : ls.length ≤ 8) (ho : out.length ≤ 2000000) :
    Calls Try.prog 72 #[lv, ov, .int .i64 i, .int .i64 j] w (PInts w (kptL ls out i j)) := by
  obtain ⟨p1, c1, rfl⟩ := h1.form
  obtain ⟨p2, c2, rfl⟩ := h2.form
  have hlo := h2.len
  have h2' := Lib.hid h2
  clear h2
  go_enter Try.func72, Try.ntmps72
  go_wp2_with (at_builtin; refine wpList_app0C rfl (.tmp 15) (.tmp 16) rfl rfl rfl (OwnI.lit0 (w) w.heap.size (by simp)) (by simp) (h2'.out.ext qXt) ?_)
  intro g r w1 O1 x1 hg7 hg8 cz
  clear hg7 hg8 cz
  have X1 : Ext w w1 := Ext.trans qXt x1
  clear x1
  replace O1 := Lib.hid O1
  go_wp2_with fail
  go_loopw [9, 20] (fun gv t wr => ∃ (k : Nat), k ≤ ls.length ∧ t = .int .i64 k ∧ Hid (OwnI wr w.heap.size gv (needL ls out i j k)) ∧ Ext w wr) (fun _ t _ => ls.length - (intOf t).toNat)
  case atStart => exact ⟨0, Nat.zero_le _, rfl, Lib.hid (by rw [needL_zero]; exact O1.out.ext qXt), X1.trans qXt⟩
  case round =>
    clear O1 X1
    obtain ⟨k, hk, rfl, OG, Xr⟩ := hrel
    have hnl := needL_len (out := out) (i := i) (j := j) hb.out k hk
    have hsz := Xr.size
    obtain ⟨ga, gc, rfl⟩ := (OG.out.ints (by omega)).form
    by_cases hlt : k < ls.length
    · have hkI : (k : Int) < ls.length := by omega
      obtain ⟨bl, ol, u, cu, rfl, x0, i0⟩ := (h1.ext Xr).at k hlt
      clear h1
      replace i0 := Lib.hid i0
      by_cases hki : k = i
      · subst hki
        have hn : needL ls out k j (k+1) = needL ls out k j k := needL_skip (.inl rfl)
        replace hn := Lib.hid hn
        go_wp2_with fail
        go_roundw
        case rel => exact ⟨k + 1, by omega, by go_num, Lib.hid (by rw [hn.out]; exact OG.out.ext qXt), Xr.trans qXt⟩
        case measure => simp [intOf]; omega
      · have hc : ¬ (k : Int) = (i : Int) := by omega
        by_cases hkj : k = j
        · subst hkj
          have hn : needL ls out i k (k+1) = needL ls out i k k := needL_skip (.inr rfl)
          replace hn := Lib.hid hn
          go_wp2_with fail
          go_roundw
          case rel => exact ⟨k + 1, by omega, by go_num, Lib.hid (by rw [hn.out]; exact OG.out.ext qXt), Xr.trans qXt⟩
          case measure => simp [intOf]; omega
        · have hd : ¬ (k : Int) = (j : Int) := by omega
          have hn : needL ls out i j (k+1) = needL ls out i j k ++ (lstAt ls k).s := needL_go hki hkj
          have hr6 := (hb.out k hlt).2
          replace hn := Lib.hid hn
          generalize (lstAt ls k).s = S at *
          have EE : Ext wr wr := qXt
          have hx1 : ((k : Int) != (i : Int)) = true := bne_iff_ne.mpr hc
          have hx2 : ((k : Int) != (j : Int)) = true := bne_iff_ne.mpr hd
          go_wp2_with (
            at_builtin
            refine wpList_app rfl (.tmp 33) (.tmp 34) rfl rfl rfl (OG.out.ext qXt) (i0.out.ext qXt) (by omega) qSo ?_
            intro v2 w2 O2 hg7 hbl hv7
            clear hg7 hv7
            have X2 : Ext w w2 := Ext.below (Ext.trans Xr qXt) hbl (by omega)
            obtain ⟨ga2, gc2, rfl⟩ : ∃ a c, v2 = .slice a ((needL ls out i j k).length + S.length) c := by obtain ⟨a, c, h⟩ := (O2.ints (by rw [List.length_append]; omega)).form; exact ⟨a, c, by rw [h, List.length_append]⟩
            replace O2 := Lib.hid O2
            clear hbl EE x0 i0)
          go_wp2_with fail
          go_roundw
          case rel => exact ⟨k + 1, by omega, by go_num, Lib.hid (by rw [hn.out]; exact O2.out.ext qXt), X2.trans qXt⟩
          case measure => simp [intOf]; omega
    · obtain rfl : k = ls.length := by omega
      have hni : Ints wr 0 (.slice ga (needL ls out i j ls.length).length gc) (needL ls out i j ls.length) := (OG.out.ints (by omega)).lower (Nat.zero_le _)
      replace hni := Lib.hid hni
      clear OG
      go_wp2_with fail
      have hlaw := kept_law (out := out) hb.out hi hj
      have htl := twoL_len hb.out hi hj
      have htb := two_labs hb.out hi hj
      replace htb := Lib.hid htb
      replace hlaw := Lib.hid hlaw
      have XW : Ext w (wr.alloc (.cells #[] 3)) := qXt
      replace hni := Lib.hid (hni.out.ext (show Ext wr (wr.alloc (.cells #[] 3)) from qXt))
      obtain ⟨b1, q1, u1, d1, e1, y1, k1⟩ := (h1.ext XW).at i hi
      obtain ⟨b2, q2, u2, d2, e2, y2, k2⟩ := (h1.ext XW).at j hj
      subst e1
      cases e2
      generalize hWW : wr.alloc (.cells #[] 3) = W at *
      clear hWW
      generalize wr.heap.size = g8 at *
      clear h1
      replace k1 := Lib.hid k1
      replace k2 := Lib.hid k2
      clear hnl hsz Xr
      go_region_with (first
        | (go_at_call 66; refine (two_c ls i j _ _ 0 ?_ htb).mono ?_; exact (Lsts.lit2 k1.out k2.out).ext (Ext.drew (Ext.refl _)); rintro e w3 ⟨tv, rfl, i3, -, x3⟩; have X3 : Ext W w3 := Ext.trans qXt x3; obtain ⟨a3, c3, rfl⟩ := i3.form; replace i3 := i3.lower (Nat.zero_le _)))
      all_goals (
        try simp only [Act.put, qa, qb, qc, qD, qE, qF]
        replace i3 := Lib.hid i3
        replace hni := Lib.hid (hni.out.ext X3)
        replace x3 := Lib.hid x3
        have hsz3 := (XW.trans X3).size
        clear k1 k2 y1 y2
        go_wp2_with fail
        go_loopw [12, 49] (fun kv t wr => ∃ (k : Nat), k ≤ (twoL ls i j).length ∧ t = .int .i64 k ∧ Hid (KeptV wr w3.heap.size g8 kv (keptF ls out i j k)) ∧ Ext w3 wr) (fun _ t _ => (twoL ls i j).length - (intOf t).toNat)
        case atStart => exact ⟨0, Nat.zero_le _, rfl, Lib.hid (.inl ⟨rfl, rfl⟩), qXt⟩
        case round =>
          obtain ⟨k, hk, rfl, OG, Xr⟩ := hrel
          have hfl := keptF_len ls out i j k
          have hszr := Xr.size
          by_cases hlt : k < (twoL ls i j).length
          · have hkI : (k : Int) < (twoL ls i j).length := by omega
            obtain ⟨bl, ol, rfl, e0⟩ := (i3.out.ext Xr).at k hlt
            obtain ⟨x, hx⟩ : ∃ v, (twoL ls i j).getD k 0 = v := ⟨_, rfl⟩
            rw [hx] at e0
            replace hx := Lib.hid hx
            clear i3
            go_wp2_with fail
            refine (contains_c _ _ x _ _ (hni.out.ext (Xr.trans qXt))).mono ?_
            rintro e w4 ⟨rfl, rfl⟩
            by_cases hq : hasB (needL ls out i j ls.length) x = true
            · have hn := keptF_go hlt hx.out hq
              replace hn := Lib.hid hn
              have hkv := OG.out
              rcases hkv with ⟨he, rfl⟩ | ho1
              · replace he := Lib.hid he
                go_wp2_with (at_builtin; refine wpList_app0 rfl (.tmp 56) (.tmp 58) ⟨g8, 0, none⟩ rfl rfl rfl (by exact Ints.one _ 0 x (Nat.zero_le _)) ?_)
                intro v5 w5 O5 x5 hd5
                clear hd5
                have X5 : Ext w3 w5 := Xr.trans (Ext.trans qXt x5)
                have O5' : OwnI w5 w3.heap.size v5 (keptF ls out i j (k+1)) := by
                  rw [hn.out, he.out, List.nil_append]
                  exact (O5.ofNe (List.cons_ne_nil _ _)).lower (by first | omega | exact Nat.le_trans hszr (Ext.size (show Ext wr _ from qXt)) | (simp; omega))
                replace O5' := Lib.hid O5'
                obtain ⟨a5, n5, c5, rfl⟩ := O5'.out.any
                clear O5 x5
                go_wp2_with fail
                go_roundw
                case rel => exact ⟨k + 1, by omega, by go_num, Lib.hid (.inr (O5'.out.ext qXt)), X5.trans qXt⟩
                case measure => simp [intOf]; omega
              · obtain ⟨ga5, gn5, gc5, rfl⟩ := ho1.any
                replace ho1 := Lib.hid ho1
                clear OG
                go_wp2_with (
                  at_builtin
                  refine wpList_app rfl (.tmp 56) (.tmp 58) rfl rfl rfl (ho1.out.ext qXt) (by exact Ints.one _ 0 x (Nat.zero_le _)) (by simp only [List.length_cons, List.length_nil]; omega) qSo ?_
                  intro v5 w5 O5 hg7 hbl hv7
                  clear hg7 hv7
                  have X5 : Ext w3 w5 := Ext.below (Ext.trans Xr qXt) hbl (Nat.le_refl _)
                  obtain ⟨a5, n5, c5, rfl⟩ := O5.any
                  replace O5 := Lib.hid O5
                  clear hbl)
                go_wp2_with fail
                go_roundw
                case rel => exact ⟨k + 1, by omega, by go_num, Lib.hid (.inr (by rw [hn.out]; exact O5.out.ext qXt)), X5.trans qXt⟩
                case measure => simp [intOf]; omega
            · have hq2 : hasB (needL ls out i j ls.length) x = false := by simpa using hq
              have hn := keptF_skip hlt hx.out hq2
              replace hn := Lib.hid hn
              clear hq
              go_wp2_with fail
              go_roundw
              case rel => exact ⟨k + 1, by omega, by go_num, Lib.hid (by rw [hn.out]; exact OG.out.ext qXt), Xr.trans qXt⟩
              case measure => simp [intOf]; omega
          · obtain rfl : k = (twoL ls i j).length := by omega
            have X9 : Ext w wr := (XW.trans X3).trans Xr
            go_wp2_with fail
            go_ret
            exact KeptV.done OG.out hlaw.out hsz3 (by have := kptL_len ls out i j; omega) X9)
end Go.Proofs.Ytpgkhjmboiepcaa

/- Walks: KeptLabels of both. No condition. -/
namespace Go.Proofs.Ytpgkhjmboiepcaa
open Go.RowKit
set_option linter.unusedVariables false
set_option maxRecDepth 100000

theorem PInts.nilV {w w' : World} (h : Ext w w') : PInts w [] (.returned (.slice none 0 0)) w' := ⟨_, rfl, Ints.nil _ _ _ _ (by simp) (fun _ => rfl), .inl ⟨rfl, none, 0, rfl, by simp, fun _ => rfl⟩, h⟩
def prB (n : Nat) (i j : Int) : Bool := decide (0 ≤ i ∧ i < n ∧ 0 ≤ j ∧ j < n ∧ ¬ i = j)
set_option maxHeartbeats 3200000 in
theorem arePair_c (n : Nat) (a : Option Addr) (c : Nat) (i j : Int) (w : World) :
    Calls Try.prog 70 #[.slice a n c, .int .i64 i, .int .i64 j] w (fun e w' => e = .returned (.bool (prB n i j)) ∧ Ext w w') := by
  by_cases h0 : 0 ≤ i
  · skip
    by_cases h1 : i < n
    · skip
      by_cases h2 : 0 ≤ j
      · skip
        by_cases h3 : j < n
        · skip
          by_cases hq : i = j
          · subst hq
            go_enter Try.func70, Try.ntmps70
            go_wp2_with fail
            go_ret
            exact ⟨by rw [show prB n i i = false from by unfold prB; first | exact decide_eq_false (by omega) | exact decide_eq_true (by omega)] <;> rfl, qXt⟩
          · have hx : (i != j) = true := bne_iff_ne.mpr hq
            go_enter Try.func70, Try.ntmps70
            go_wp2_with fail
            go_ret
            exact ⟨by rw [show prB n i j = true from by unfold prB; first | exact decide_eq_false (by omega) | exact decide_eq_true (by omega)] <;> rfl, qXt⟩
        · skip
          go_enter Try.func70, Try.ntmps70
          go_wp2_with fail
          go_ret
          exact ⟨by rw [show prB n i j = false from by unfold prB; first | exact decide_eq_false (by omega) | exact decide_eq_true (by omega)] <;> rfl, qXt⟩
      · skip
        go_enter Try.func70, Try.ntmps70
        go_wp2_with fail
        go_ret
        exact ⟨by rw [show prB n i j = false from by unfold prB; first | exact decide_eq_false (by omega) | exact decide_eq_true (by omega)] <;> rfl, qXt⟩
    · skip
      go_enter Try.func70, Try.ntmps70
      go_wp2_with fail
      go_ret
      exact ⟨by rw [show prB n i j = false from by unfold prB; first | exact decide_eq_false (by omega) | exact decide_eq_true (by omega)] <;> rfl, qXt⟩
  · skip
    go_enter Try.func70, Try.ntmps70
    go_wp2_with fail
    go_ret
    exact ⟨by rw [show prB n i j = false from by unfold prB; first | exact decide_eq_false (by omega) | exact decide_eq_true (by omega)] <;> rfl, qXt⟩

end Go.Proofs.Ytpgkhjmboiepcaa

/- Walks: KeptLabels of both. No condition. -/
namespace Go.Proofs.Ytpgkhjmboiepcaa
open Go.RowKit
set_option linter.unusedVariables false
set_option maxRecDepth 100000

set_option maxHeartbeats 3200000 in
theorem implKept_0 (ts : List Ten) (ls : List Lst) (out : List Int) (tv lv ov : Value) (i j : Int) (w : World) (l1 l2 l3 : Nat) (h1 : Tens w l1 tv ts) (h2 : Lsts w l2 lv ls) (h3 : Ints w l3 ov out) (ho : out.length ≤ 2000000) (he : Hid (extA ts ls = none)) :
    Calls Try.prog 30 #[tv, lv, ov, .int .i64 i, .int .i64 j] w (PInts w (kptA ts ls out i j)) := by
  obtain ⟨p0, c0, rfl⟩ := h1.form
  obtain ⟨p1, c1, rfl⟩ := h2.form
  obtain ⟨p2, c2, rfl⟩ := h3.form
  have hlt1 := h1.len
  have hlt2 := h2.len
  go_enter Try.func30, Try.ntmps30
  go_wp2_with fail
  refine (pie_none he.out (extentsOf_c ts ls (.slice p0 ts.length c0) (.slice p1 ls.length c1) _ _ _ (h1.ext qXt) (h2.ext qXt))).mono ?_
  rintro e w1 ⟨fv1, rfl, i2, -, xw1⟩
  have X1 : Ext w w1 := Ext.trans qXt xw1
  clear xw1
  obtain ⟨afv1, cfv1, rfl⟩ := i2.form
  clear i2
  go_wp2_with fail
  go_ret
  rw [kptA_none he.out]
  exact PInts.nilV (X1.trans qXt)
set_option maxHeartbeats 6400000 in
theorem implKept_1 (ts : List Ten) (ls : List Lst) (out : List Int) (tv lv ov : Value) (i j : Int) (w : World) (l1 l2 l3 : Nat) (h1 : Tens w l1 tv ts) (h2 : Lsts w l2 lv ls) (h3 : Ints w l3 ov out) (ho : out.length ≤ 2000000) (x : List Int) (he : Hid (extA ts ls = some x)) :
    Calls Try.prog 30 #[tv, lv, ov, .int .i64 i, .int .i64 j] w (PInts w (kptA ts ls out i j)) := by
  obtain ⟨p0, c0, rfl⟩ := h1.form
  obtain ⟨p1, c1, rfl⟩ := h2.form
  obtain ⟨p2, c2, rfl⟩ := h3.form
  have hlt1 := h1.len
  have hlt2 := h2.len
  obtain ⟨f5, f1, f2, f3, f4, f6⟩ := extA_fact he.out
  have hlb : Hid (labsB ls) := Lib.hid (fun i hi => ⟨(f4 i hi).1, by have := (f4 i hi).2; omega⟩)
  have f7 : ls.length ≤ 8 := by omega
  have f8 : ts.length ≤ ls.length := by omega
  clear f4 f6 f5 f1
  go_enter Try.func30, Try.ntmps30
  go_wp2_with fail
  refine (pie_some he.out (extentsOf_c ts ls (.slice p0 ts.length c0) (.slice p1 ls.length c1) _ _ _ (h1.ext qXt) (h2.ext qXt))).mono ?_
  rintro e w1 ⟨fv1, rfl, i2, -, xw1⟩
  have X1 : Ext w w1 := Ext.trans qXt xw1
  clear xw1
  obtain ⟨afv1, cfv1, rfl⟩ := i2.form
  clear i2
  go_wp2_with fail
  refine (arePair_c ts.length p0 c0 i j _).mono ?_
  rintro e w2 ⟨rfl, x2⟩
  replace X1 := X1.trans (Ext.trans qXt x2)
  clear x2
  by_cases hp : 0 ≤ i ∧ i < ts.length ∧ 0 ≤ j ∧ j < ts.length ∧ ¬ i = j
  · rw [show prB ts.length i j = true from decide_eq_true hp]
    obtain ⟨a, rfl⟩ : ∃ a : Nat, i = a := ⟨i.toNat, by omega⟩
    obtain ⟨b, rfl⟩ : ∃ b : Nat, j = b := ⟨j.toNat, by omega⟩
    have hi : a < ls.length := by omega
    have hj : b < ls.length := by omega
    replace hp := Lib.hid hp
    go_wp2_with fail
    refine (areLabels_c out _ _ _ (h3.ext (X1.trans qXt))).mono ?_
    rintro e w3 ⟨rfl, x3⟩
    replace X1 := X1.trans (Ext.trans qXt x3)
    clear x3
    replace hp := hp.out
    cases hb : labB out with
    | true =>
      have ha : Hid (kptA ts ls out (a : Int) (b : Int) = kptL ls out a b) := Lib.hid (by rw [kptA_yes he.out hb hp, Int.toNat_natCast, Int.toNat_natCast])
      replace hb := Lib.hid hb
      replace hp := Lib.hid hp
      go_wp2_with fail
      refine (keptLabels_c ls out _ _ a b _ _ _ (h2.ext (X1.trans qXt)) (h3.ext (X1.trans qXt)) hi hj hlb f7 ho).mono ?_
      rintro e w5 ⟨v5, rfl, i5, o5, x5⟩
      have X5 : Ext w w5 := X1.trans (Ext.trans qXt x5)
      obtain ⟨a5, c5, rfl⟩ := i5.form
      go_wp2_with fail
      go_ret
      rw [ha.out]
      exact ⟨_, rfl, (i5.lower (Ext.size (X1.trans qXt))).ext qXt, (o5.lower (Ext.size (X1.trans qXt))).ext qXt, X5.trans qXt⟩
    | false =>
      replace hp := Lib.hid hp
      replace hb := Lib.hid hb
      go_wp2_with fail
      go_ret
      rw [kptA_lab hb.out]
      exact PInts.nilV (X1.trans qXt)
  · rw [show prB ts.length i j = false from decide_eq_false hp]
    replace hp := Lib.hid hp
    go_wp2_with fail
    go_ret
    rw [kptA_pair hp.out]
    exact PInts.nilV (X1.trans qXt)
theorem implKeptLabels_c (ts : List Ten) (ls : List Lst) (out : List Int) (tv lv ov : Value) (i j : Int) (w : World) (l1 l2 l3 : Nat) (h1 : Tens w l1 tv ts) (h2 : Lsts w l2 lv ls) (h3 : Ints w l3 ov out) (ho : out.length ≤ 2000000) :
    Calls Try.prog 30 #[tv, lv, ov, .int .i64 i, .int .i64 j] w (PInts w (kptA ts ls out i j)) := by
  cases he : extA ts ls with
  | none => exact implKept_0 ts ls out tv lv ov i j w l1 l2 l3 h1 h2 h3 ho (Lib.hid he)
  | some x => exact implKept_1 ts ls out tv lv ov i j w l1 l2 l3 h1 h2 h3 ho x (Lib.hid he)

end Go.Proofs.Ytpgkhjmboiepcaa

/- Walks: KeptLabels of both. No condition. -/
namespace Go.Proofs.Ytpgkhjmboiepcaa
open Go.RowKit
set_option linter.unusedVariables false
set_option maxRecDepth 100000

set_option maxHeartbeats 6400000 in
theorem keepFor_c (ls : List Lst) (out : List Int) (lv ov : Value) (i j : Nat) (w : World) (l1 l2 : Nat) (h1 : Lsts w l1 lv ls) (h2 : Ints w l2 ov out) (hi : i < ls.length) (hj : j < ls.length) :
    Calls Try.prog 74 #[lv, ov, .int .i64 i, .int .i64 j] w (PInts w (kptL ls out i j)) := by
  obtain ⟨p1, c1, rfl⟩ := h1.form
  obtain ⟨p2, c2, rfl⟩ := h2.form
  have hll := h1.len
  have h2' := Lib.hid h2
  clear h2
  go_enter Try.func74, Try.ntmps74
  go_wp2_with fail
  go_loopw [9, 10] (fun gv t wr => ∃ (k : Nat), k ≤ 5 ∧ t = .int .i64 k ∧ Hid (OwnI wr w.heap.size gv (labN (kptP ls out i j) k)) ∧ Ext w wr) (fun _ t _ => 5 - (intOf t).toNat)
  case atStart => exact ⟨0, by omega, rfl, Lib.hid (OwnI.lit0 w w.heap.size (Nat.le_refl _)), qXt⟩
  case round =>
    obtain ⟨k, hk, rfl, OG, Xr⟩ := hrel
    have hfl := labN_le (kptP ls out i j) k
    have hszr := Xr.size
    obtain ⟨ga, gn, gc, rfl⟩ := OG.out.any
    by_cases hlt : k < 5
    · have hkI : (k : Int) ≤ 4 := by omega
      obtain ⟨bl, ol, u1, d1, rfl, x0, i0⟩ := (h1.ext Xr).at i hi
      obtain ⟨b2, o2, u2, d2, e2, y0, i2⟩ := (h1.ext Xr).at j hj
      cases e2
      replace i0 := Lib.hid i0
      replace i2 := Lib.hid i2
      go_wp2_with fail
      refine (placeIn_c (lstAt ls i).s _ (k : Int) _ _ (i0.out.ext qXt)).mono ?_
      rintro e w2 ⟨rfl, rfl⟩
      by_cases c1 : placeL (lstAt ls i).s k < 0
      · have g1 := place_no c1
        replace g1 := Lib.hid g1
        go_wp2_with fail
        refine (placeIn_c (lstAt ls j).s _ (k : Int) _ _ (i2.out.ext qXt)).mono ?_
        rintro e w3 ⟨rfl, rfl⟩
        by_cases c2 : placeL (lstAt ls j).s k < 0
        · have hn := kpt_skip (ls := ls) (out := out) (i := i) (j := j) (k := k) (by unfold kptP; rw [g1.out, place_no c2]; rfl)
          replace hn := Lib.hid hn
          go_wp2_with fail
          go_roundw
          case rel => exact ⟨k + 1, by omega, by go_num, Lib.hid (by rw [hn.out]; exact OG.out.ext qXt), Xr.trans qXt⟩
          case measure => simp [intOf]; omega
        · have g2 := place_yes c2
          replace g2 := Lib.hid g2
          go_wp2_with fail
          refine (placeIn_c out _ (k : Int) _ _ (h2'.out.ext (Xr.trans qXt))).mono ?_
          rintro e w6 ⟨rfl, rfl⟩
          go_wp2_with fail
          go_loopw [11, 12] (fun b t wi => ∃ (m : Nat), m ≤ ls.length ∧ t = .int .i64 m ∧ b = .bool (needB ls out i j k m) ∧ Ext wr wi) (fun _ t _ => ls.length - (intOf t).toNat)
          case atStart => exact ⟨0, Nat.zero_le _, rfl, by rw [needB_zero, place_has], qXt⟩
          case round =>
            obtain ⟨m, hm, rfl, rfl, X2⟩ := hrel
            by_cases hlm : m < ls.length
            · have hmI : (m : Int) < ls.length := by omega
              cases hnb : needB ls out i j k m with
              | true =>
                have hn2 := needB_yes hnb
                replace hn2 := Lib.hid hn2
                clear hnb
                go_wp2_with fail
                go_roundw
                case rel => exact ⟨m + 1, by omega, by go_num, by rw [hn2.out], X2.trans qXt⟩
                case measure => simp [intOf]; omega
              | false =>
                by_cases hmi : m = i
                · have hn2 : needB ls out i j k (m+1) = false := by rw [needB_skip (.inl hmi)]; exact hnb
                  subst hmi
                  replace hn2 := Lib.hid hn2
                  clear hnb
                  go_wp2_with fail
                  go_roundw
                  case rel => exact ⟨m + 1, by omega, by go_num, by rw [hn2.out], X2.trans qXt⟩
                  case measure => simp [intOf]; omega
                · have hc : ¬ (m : Int) = (i : Int) := by omega
                  have hx1 : ((m : Int) != (i : Int)) = true := bne_iff_ne.mpr hc
                  by_cases hmj : m = j
                  · have hn2 : needB ls out i j k (m+1) = false := by rw [needB_skip (.inr hmj)]; exact hnb
                    subst hmj
                    replace hn2 := Lib.hid hn2
                    clear hnb
                    go_wp2_with fail
                    go_roundw
                    case rel => exact ⟨m + 1, by omega, by go_num, by rw [hn2.out], X2.trans qXt⟩
                    case measure => simp [intOf]; omega
                  · have hd : ¬ (m : Int) = (j : Int) := by omega
                    have hx2 : ((m : Int) != (j : Int)) = true := bne_iff_ne.mpr hd
                    have hn2 : needB ls out i j k (m+1) = hasB (lstAt ls m).s k := by rw [needB_go hmi hmj, hnb, Bool.false_or]
                    replace hn2 := Lib.hid hn2
                    clear hnb
                    obtain ⟨bm, om, u3, d3, e3, z0, i3⟩ := (h1.ext (Xr.trans X2)).at m hlm
                    cases e3
                    replace i3 := Lib.hid i3
                    go_wp2_with fail
                    refine (placeIn_c (lstAt ls m).s _ (k : Int) _ _ (i3.out.ext qXt)).mono ?_
                    rintro e w7 ⟨rfl, rfl⟩
                    go_wp2_with fail
                    go_roundw
                    case rel => exact ⟨m + 1, by omega, by go_num, by rw [hn2.out, place_has], X2.trans qXt⟩
                    case measure => simp [intOf]; omega
            · obtain rfl : m = ls.length := by omega
              have X3 := Xr.trans X2
              cases hnb : needB ls out i j k ls.length with
              | true =>
                have hn := kpt_go (ls := ls) (out := out) (i := i) (j := j) (k := k) (by unfold kptP; rw [hnb, g1.out, g2.out]; rfl)
                replace hn := Lib.hid hn
                clear hnb
                go_wp2_with (
                  at_builtin
                  refine wpList_app rfl (.tmp 65) (.tmp 67) rfl rfl rfl (OG.out.ext (X2.trans qXt)) (by exact Ints.one _ 0 (k : Int) (Nat.zero_le _)) (by simp only [List.length_cons, List.length_nil]; omega) (by have := X2.size; first | (simp; done) | (simp; omega) | omega) ?_
                  intro v5 w5 O5 hg7 hbl hv7
                  clear hg7 hv7
                  have X5 : Ext w w5 := Ext.below (Ext.trans X3 qXt) hbl (Nat.le_refl _)
                  obtain ⟨a5, n5, c5, rfl⟩ := O5.any
                  replace O5 := Lib.hid O5
                  clear hbl)
                go_wp2_with fail
                go_roundw
                case rel => exact ⟨k + 1, by omega, by go_num, Lib.hid (by rw [hn.out]; exact O5.out.ext qXt), X5.trans qXt⟩
                case measure => simp [intOf]; omega
              | false =>
                have hn := kpt_skip (ls := ls) (out := out) (i := i) (j := j) (k := k) (by unfold kptP; rw [hnb, Bool.and_false])
                replace hn := Lib.hid hn
                clear hnb
                go_wp2_with fail
                go_roundw
                case rel => exact ⟨k + 1, by omega, by go_num, Lib.hid (by rw [hn.out]; exact OG.out.ext (X2.trans qXt)), X3.trans qXt⟩
                case measure => simp [intOf]; omega
      · have g1 := place_yes c1
        replace g1 := Lib.hid g1
        go_wp2_with fail
        refine (placeIn_c out _ (k : Int) _ _ (h2'.out.ext (Xr.trans qXt))).mono ?_
        rintro e w6 ⟨rfl, rfl⟩
        go_wp2_with fail
        go_loopw [11, 12] (fun b t wi => ∃ (m : Nat), m ≤ ls.length ∧ t = .int .i64 m ∧ b = .bool (needB ls out i j k m) ∧ Ext wr wi) (fun _ t _ => ls.length - (intOf t).toNat)
        case atStart => exact ⟨0, Nat.zero_le _, rfl, by rw [needB_zero, place_has], qXt⟩
        case round =>
          obtain ⟨m, hm, rfl, rfl, X2⟩ := hrel
          by_cases hlm : m < ls.length
          · have hmI : (m : Int) < ls.length := by omega
            cases hnb : needB ls out i j k m with
            | true =>
              have hn2 := needB_yes hnb
              replace hn2 := Lib.hid hn2
              clear hnb
              go_wp2_with fail
              go_roundw
              case rel => exact ⟨m + 1, by omega, by go_num, by rw [hn2.out], X2.trans qXt⟩
              case measure => simp [intOf]; omega
            | false =>
              by_cases hmi : m = i
              · have hn2 : needB ls out i j k (m+1) = false := by rw [needB_skip (.inl hmi)]; exact hnb
                subst hmi
                replace hn2 := Lib.hid hn2
                clear hnb
                go_wp2_with fail
                go_roundw
                case rel => exact ⟨m + 1, by omega, by go_num, by rw [hn2.out], X2.trans qXt⟩
                case measure => simp [intOf]; omega
              · have hc : ¬ (m : Int) = (i : Int) := by omega
                have hx1 : ((m : Int) != (i : Int)) = true := bne_iff_ne.mpr hc
                by_cases hmj : m = j
                · have hn2 : needB ls out i j k (m+1) = false := by rw [needB_skip (.inr hmj)]; exact hnb
                  subst hmj
                  replace hn2 := Lib.hid hn2
                  clear hnb
                  go_wp2_with fail
                  go_roundw
                  case rel => exact ⟨m + 1, by omega, by go_num, by rw [hn2.out], X2.trans qXt⟩
                  case measure => simp [intOf]; omega
                · have hd : ¬ (m : Int) = (j : Int) := by omega
                  have hx2 : ((m : Int) != (j : Int)) = true := bne_iff_ne.mpr hd
                  have hn2 : needB ls out i j k (m+1) = hasB (lstAt ls m).s k := by rw [needB_go hmi hmj, hnb, Bool.false_or]
                  replace hn2 := Lib.hid hn2
                  clear hnb
                  obtain ⟨bm, om, u3, d3, e3, z0, i3⟩ := (h1.ext (Xr.trans X2)).at m hlm
                  cases e3
                  replace i3 := Lib.hid i3
                  go_wp2_with fail
                  refine (placeIn_c (lstAt ls m).s _ (k : Int) _ _ (i3.out.ext qXt)).mono ?_
                  rintro e w7 ⟨rfl, rfl⟩
                  go_wp2_with fail
                  go_roundw
                  case rel => exact ⟨m + 1, by omega, by go_num, by rw [hn2.out, place_has], X2.trans qXt⟩
                  case measure => simp [intOf]; omega
          · obtain rfl : m = ls.length := by omega
            have X3 := Xr.trans X2
            cases hnb : needB ls out i j k ls.length with
            | true =>
              have hn := kpt_go (ls := ls) (out := out) (i := i) (j := j) (k := k) (by unfold kptP; rw [hnb, g1.out]; rfl)
              replace hn := Lib.hid hn
              clear hnb
              go_wp2_with (
                at_builtin
                refine wpList_app rfl (.tmp 65) (.tmp 67) rfl rfl rfl (OG.out.ext (X2.trans qXt)) (by exact Ints.one _ 0 (k : Int) (Nat.zero_le _)) (by simp only [List.length_cons, List.length_nil]; omega) (by have := X2.size; first | (simp; done) | (simp; omega) | omega) ?_
                intro v5 w5 O5 hg7 hbl hv7
                clear hg7 hv7
                have X5 : Ext w w5 := Ext.below (Ext.trans X3 qXt) hbl (Nat.le_refl _)
                obtain ⟨a5, n5, c5, rfl⟩ := O5.any
                replace O5 := Lib.hid O5
                clear hbl)
              go_wp2_with fail
              go_roundw
              case rel => exact ⟨k + 1, by omega, by go_num, Lib.hid (by rw [hn.out]; exact O5.out.ext qXt), X5.trans qXt⟩
              case measure => simp [intOf]; omega
            | false =>
              have hn := kpt_skip (ls := ls) (out := out) (i := i) (j := j) (k := k) (by unfold kptP; rw [hnb, Bool.and_false])
              replace hn := Lib.hid hn
              clear hnb
              go_wp2_with fail
              go_roundw
              case rel => exact ⟨k + 1, by omega, by go_num, Lib.hid (by rw [hn.out]; exact OG.out.ext (X2.trans qXt)), X3.trans qXt⟩
              case measure => simp [intOf]; omega
    · obtain rfl : k = 5 := by omega
      go_wp2_with fail
      go_ret
      exact PInts.mk (OG.out.ext qXt) (Nat.le_refl _) (by have := kptL_len ls out i j; omega) (Xr.trans qXt)
end Go.Proofs.Ytpgkhjmboiepcaa

/- Walks: KeptLabels of both. No condition. -/
namespace Go.Proofs.Ytpgkhjmboiepcaa
open Go.RowKit
set_option linter.unusedVariables false
set_option maxRecDepth 100000

set_option maxHeartbeats 3200000 in
theorem specKept_0 (ts : List Ten) (ls : List Lst) (out : List Int) (tv lv ov : Value) (i j : Int) (w : World) (l1 l2 l3 : Nat) (h1 : Tens w l1 tv ts) (h2 : Lsts w l2 lv ls) (h3 : Ints w l3 ov out) (ho : out.length ≤ 2000000) (he : Hid (extA ts ls = none)) :
    Calls Try.prog 31 #[tv, lv, ov, .int .i64 i, .int .i64 j] w (PInts w (kptA ts ls out i j)) := by
  obtain ⟨p0, c0, rfl⟩ := h1.form
  obtain ⟨p1, c1, rfl⟩ := h2.form
  obtain ⟨p2, c2, rfl⟩ := h3.form
  have hlt1 := h1.len
  have hlt2 := h2.len
  go_enter Try.func31, Try.ntmps31
  go_wp2_with fail
  refine (pie_none he.out (specExtentsOf_c ts ls (.slice p0 ts.length c0) (.slice p1 ls.length c1) _ _ _ (h1.ext qXt) (h2.ext qXt))).mono ?_
  rintro e w1 ⟨fv1, rfl, i2, -, xw1⟩
  have X1 : Ext w w1 := Ext.trans qXt xw1
  clear xw1
  obtain ⟨afv1, cfv1, rfl⟩ := i2.form
  clear i2
  go_wp2_with fail
  go_ret
  rw [kptA_none he.out]
  exact PInts.nilV (X1.trans qXt)
set_option maxHeartbeats 6400000 in
theorem specKept_1 (ts : List Ten) (ls : List Lst) (out : List Int) (tv lv ov : Value) (i j : Int) (w : World) (l1 l2 l3 : Nat) (h1 : Tens w l1 tv ts) (h2 : Lsts w l2 lv ls) (h3 : Ints w l3 ov out) (ho : out.length ≤ 2000000) (x : List Int) (he : Hid (extA ts ls = some x)) :
    Calls Try.prog 31 #[tv, lv, ov, .int .i64 i, .int .i64 j] w (PInts w (kptA ts ls out i j)) := by
  obtain ⟨p0, c0, rfl⟩ := h1.form
  obtain ⟨p1, c1, rfl⟩ := h2.form
  obtain ⟨p2, c2, rfl⟩ := h3.form
  have hlt1 := h1.len
  have hlt2 := h2.len
  obtain ⟨f5, f1, f2, f3, f4, f6⟩ := extA_fact he.out
  have hlb : Hid (labsB ls) := Lib.hid (fun i hi => ⟨(f4 i hi).1, by have := (f4 i hi).2; omega⟩)
  have f7 : ls.length ≤ 8 := by omega
  have f8 : ts.length ≤ ls.length := by omega
  clear f4 f6 f5 f1
  go_enter Try.func31, Try.ntmps31
  go_wp2_with fail
  refine (pie_some he.out (specExtentsOf_c ts ls (.slice p0 ts.length c0) (.slice p1 ls.length c1) _ _ _ (h1.ext qXt) (h2.ext qXt))).mono ?_
  rintro e w1 ⟨fv1, rfl, i2, -, xw1⟩
  have X1 : Ext w w1 := Ext.trans qXt xw1
  clear xw1
  obtain ⟨afv1, cfv1, rfl⟩ := i2.form
  clear i2
  have hwl : IntKind.i64.wrap ((ts.length : Int) - 1) = (ts.length : Int) - 1 := IntWalk.i64_in _ (by omega)
  go_wp2_with fail
  refine (allIn_c out _ 0 4 _ _ (h3.ext (X1.trans qXt))).mono ?_
  rintro e w2 ⟨rfl, rfl⟩
  cases hb : out.all (inB 0 4) with
  | false =>
    have hb' : labB out = false := hb
    replace hb' := Lib.hid hb'
    clear hb
    go_wp2_with fail
    go_ret
    rw [kptA_lab hb'.out]
    exact PInts.nilV (X1.trans qXt)
  | true =>
    have hb' : labB out = true := hb
    replace hb' := Lib.hid hb'
    clear hb
    go_wp2_with fail
    refine (inRange_c i 0 ((ts.length : Int) - 1) _).mono ?_
    rintro e w2 ⟨rfl, rfl⟩
    by_cases hp1 : 0 ≤ i ∧ i < ts.length
    · rw [show inB 0 ((ts.length : Int) - 1) i = true from by unfold inB; simp; omega]
      replace hp1 := Lib.hid hp1
      go_wp2_with fail
      refine (inRange_c j 0 ((ts.length : Int) - 1) _).mono ?_
      rintro e w2 ⟨rfl, rfl⟩
      by_cases hp2 : 0 ≤ j ∧ j < ts.length
      · rw [show inB 0 ((ts.length : Int) - 1) j = true from by unfold inB; simp; omega]
        replace hp2 := Lib.hid hp2
        by_cases hq : i = j
        · subst hq
          have hk : Hid (kptA ts ls out i i = []) := Lib.hid (kptA_pair (by intro h; omega))
          go_wp2_with fail
          go_ret
          rw [hk.out]
          exact PInts.nilV (X1.trans qXt)
        · have hp : 0 ≤ i ∧ i < ts.length ∧ 0 ≤ j ∧ j < ts.length ∧ ¬ i = j := ⟨hp1.out.1, hp1.out.2, hp2.out.1, hp2.out.2, hq⟩
          have hx : (i == j) = false := by simpa using hq
          have hb := hb'.out
          obtain ⟨a, rfl⟩ : ∃ a : Nat, i = a := ⟨i.toNat, by omega⟩
          obtain ⟨b, rfl⟩ : ∃ b : Nat, j = b := ⟨j.toNat, by omega⟩
          have hi : a < ls.length := by omega
          have hj : b < ls.length := by omega
          clear hp1 hp2 hb'
          have ha : Hid (kptA ts ls out (a : Int) (b : Int) = kptL ls out a b) := Lib.hid (by rw [kptA_yes he.out hb hp, Int.toNat_natCast, Int.toNat_natCast])
          replace hb := Lib.hid hb
          replace hp := Lib.hid hp
          go_wp2_with fail
          refine (keepFor_c ls out _ _ a b _ _ _ (h2.ext (X1.trans qXt)) (h3.ext (X1.trans qXt)) hi hj).mono ?_
          rintro e w5 ⟨v5, rfl, i5, o5, x5⟩
          have X5 : Ext w w5 := X1.trans (Ext.trans qXt x5)
          obtain ⟨a5, c5, rfl⟩ := i5.form
          go_wp2_with fail
          go_ret
          rw [ha.out]
          exact ⟨_, rfl, (i5.lower (Ext.size (X1.trans qXt))).ext qXt, (o5.lower (Ext.size (X1.trans qXt))).ext qXt, X5.trans qXt⟩
      · rw [show inB 0 ((ts.length : Int) - 1) j = false from by unfold inB; simp; omega]
        have hk : Hid (kptA ts ls out i j = []) := Lib.hid (kptA_pair (by intro h; exact hp2 ⟨h.2.2.1, h.2.2.2.1⟩))
        clear hp2
        go_wp2_with fail
        go_ret
        rw [hk.out]
        exact PInts.nilV (X1.trans qXt)
    · rw [show inB 0 ((ts.length : Int) - 1) i = false from by unfold inB; simp; omega]
      have hk : Hid (kptA ts ls out i j = []) := Lib.hid (kptA_pair (by intro h; exact hp1 ⟨h.1, h.2.1⟩))
      clear hp1
      go_wp2_with fail
      go_ret
      rw [hk.out]
      exact PInts.nilV (X1.trans qXt)
theorem specKeptLabels_c (ts : List Ten) (ls : List Lst) (out : List Int) (tv lv ov : Value) (i j : Int) (w : World) (l1 l2 l3 : Nat) (h1 : Tens w l1 tv ts) (h2 : Lsts w l2 lv ls) (h3 : Ints w l3 ov out) (ho : out.length ≤ 2000000) :
    Calls Try.prog 31 #[tv, lv, ov, .int .i64 i, .int .i64 j] w (PInts w (kptA ts ls out i j)) := by
  cases he : extA ts ls with
  | none => exact specKept_0 ts ls out tv lv ov i j w l1 l2 l3 h1 h2 h3 ho (Lib.hid he)
  | some x => exact specKept_1 ts ls out tv lv ov i j w l1 l2 l3 h1 h2 h3 ho x (Lib.hid he)

end Go.Proofs.Ytpgkhjmboiepcaa

/- Walks: drawn pairs of ranges; ascending lists; plain laws on what two ranges have in common. -/
namespace Go.Proofs.Ytpgkhjmboiepcaa
open Go.RowKit
set_option linter.unusedVariables false
set_option maxRecDepth 100000

set_option maxHeartbeats 800000 in
theorem ascends_c (xs : List Int) (v : Value) (w : World) (lo : Nat) (hv : Ints w lo v xs) (hp : xs.Pairwise (· < ·)) :
    Calls Try.prog 33 #[v] w fun e w' => e = .returned (.bool true) ∧ Ext w w' := by
  obtain ⟨a, cap, rfl, _, _, ⟨hlen, _⟩, hc⟩ := hv
  go_enter Try.func33, Try.ntmps33
  go_wp2_with fail
  go_loopw [3] (fun i wr => ∃ k m : Nat, 1 ≤ k ∧ i = .int .i64 k ∧ wr = w.drewN m) (fun i _ => xs.length - (intOf i).toNat)
  case atStart => exact ⟨1, 0, Nat.le_refl _, rfl, rfl⟩
  case round =>
    obtain ⟨k, m, hk, rfl, rfl⟩ := hrel
    by_cases hlt : k < xs.length
    · obtain ⟨q, rfl⟩ : ∃ q, k = q + 1 := ⟨k - 1, by omega⟩
      obtain ⟨b1, off1, rfl, _, hcell1, _⟩ := hc (q+1) hlt
      obtain ⟨b2, off2, hE, _, hcell2, _⟩ := hc q (by omega)
      cases hE
      have g1 : xs.getD (q+1) 0 = xs[q+1] := by simp [hlt]
      have g2 : xs.getD q 0 = xs[q] := by simp [show q < xs.length by omega]
      have hl := List.pairwise_iff_getElem.1 hp q (q+1) (by omega) hlt (by omega)
      rw [g1] at hcell1
      rw [g2] at hcell2
      have hI : ((q + 1 : Nat) : Int) < xs.length := by omega
      have hI2 : ((q + 1 : Nat) : Int) - 1 = (q : Int) := by omega
      have hI3 : (q : Int) < xs.length := by omega
      have hN : ¬ (xs[q+1] ≤ xs[q]) := by omega
      have hD : decide (xs[q+1] ≤ xs[q]) = false := by simpa using hN
      clear hc g1 g2 hl
      generalize xs[q+1] = y1 at *
      generalize xs[q] = y2 at *
      go_wp2_with fail
      go_quiet (fail)
      go_wp2_with fail
      go_roundw
      case rel => exact ⟨q+2, _, by omega, by go_num, rfl⟩
      case measure => simp [intOf]; omega
    · have hI : ¬ (k : Int) < xs.length := by omega
      go_wp2_with fail
      go_ret
      exact ⟨rfl, qXo⟩

end Go.Proofs.Ytpgkhjmboiepcaa

/- FnKeptLabels returns true, once DrawKeptLabels hands back tensors, labels and two numbers: the law without its draw. -/
namespace Go.Proofs.Ytpgkhjmboiepcaa
open Go.RowKit
set_option linter.unusedVariables false
set_option maxRecDepth 100000

/-- tensors, labels, labels of a result, two numbers are drawn -/
def PDK (w : World) (e : Ending) (w' : World) : Prop := ∃ (ts : List Ten) (ls : List Lst) (out : List Int) (p0 p1 p2 : Option Addr) (c0 c1 c2 : Nat) (i j : Int), e = .returned (.tuple #[.slice p0 ts.length c0, .slice p1 ls.length c1, .slice p2 out.length c2, .int .i64 i, .int .i64 j]) ∧
  Tens w' 0 (.slice p0 ts.length c0) ts ∧ Lsts w' 0 (.slice p1 ls.length c1) ls ∧ Ints w' 0 (.slice p2 out.length c2) out ∧ out.length ≤ 2000000 ∧ Ext w w'
theorem othL_symm (ls : List Lst) (i j n : Nat) : othL ls i j n = othL ls j i n := by
  induction n with
  | zero => rfl
  | succ n ih =>
    rw [othL_succ, othL_succ, ih]
    by_cases h : n = i ∨ n = j
    · rw [if_pos h, if_pos h.symm]
    · rw [if_neg h, if_neg (fun h2 => h h2.symm)]
theorem kptL_symm (ls : List Lst) (out : List Int) (i j : Nat) : kptL ls out i j = kptL ls out j i := by
  have e : kptP ls out i j = kptP ls out j i := by
    funext k
    unfold kptP needB needL
    rw [othL_symm, Bool.or_comm]
  unfold kptL
  rw [e]
theorem kptA_symm (ts : List Ten) (ls : List Lst) (out : List Int) (i j : Int) : kptA ts ls out i j = kptA ts ls out j i := by
  unfold kptA
  by_cases h : (extA ts ls).isSome = true ∧ labB out = true ∧ (0 ≤ i ∧ i < ts.length ∧ 0 ≤ j ∧ j < ts.length ∧ ¬ i = j)
  · rw [if_pos h, if_pos ⟨h.1, h.2.1, h.2.2.2.2.1, h.2.2.2.2.2.1, h.2.2.1, h.2.2.2.1, fun e => h.2.2.2.2.2.2 e.symm⟩, kptL_symm]
  · rw [if_neg h, if_neg fun h2 => h ⟨h2.1, h2.2.1, h2.2.2.2.2.1, h2.2.2.2.2.2.1, h2.2.2.1, h2.2.2.2.1, fun e => h2.2.2.2.2.2.2 e.symm⟩]
theorem has_dec (l : List Int) (x : Int) : decide (x ∈ l) = hasB l x := by
  by_cases h : x ∈ l
  · rw [decide_eq_true h, hasB_mem.2 h]
  · rw [decide_eq_false h]
    cases hb : hasB l x with
    | false => rfl
    | true => exact absurd (hasB_mem.1 hb) h
theorem isIn_h (xs : List Int) (n : Int) (a : Value) (w : World) (la : Nat) (ha : Ints w la a xs) :
    Calls Try.prog 32 #[a, .int .i64 n] w fun e w' => e = .returned (.bool (hasB xs n)) ∧ Ext w w' := by
  rw [← has_dec]; exact isIn_c xs n a w la ha
theorem isIn_b {xs : List Int} {n : Int} {a : Value} {w : World} {la : Nat} (b : Bool) (hb : hasB xs n = b) (ha : Ints w la a xs) :
    Calls Try.prog 32 #[a, .int .i64 n] w fun e w' => e = .returned (.bool b) ∧ Ext w w' := by
  subst hb; exact isIn_h xs n a w la ha
/-- what is known where labels are kept -/
theorem kptA_facts {ts : List Ten} {ls : List Lst} {out K : List Int} {i j : Int} (h : kptA ts ls out i j = K) (hn : K ≠ []) :
    ls.length = ts.length ∧ 0 ≤ i ∧ i < ts.length ∧ 0 ≤ j ∧ j < ts.length ∧ ¬ i = j ∧ K = kptL ls out i.toNat j.toNat := by
  by_cases hc : (extA ts ls).isSome = true ∧ labB out = true ∧ (0 ≤ i ∧ i < ts.length ∧ 0 ≤ j ∧ j < ts.length ∧ ¬ i = j)
  · unfold kptA at h
    rw [if_pos hc] at h
    obtain ⟨x, hx⟩ := Option.isSome_iff_exists.1 hc.1
    obtain ⟨f5, f1, f2, f3, f4, f6⟩ := extA_fact hx
    exact ⟨f1, hc.2.2.1, hc.2.2.2.1, hc.2.2.2.2.1, hc.2.2.2.2.2.1, hc.2.2.2.2.2.2, h.symm⟩
  · unfold kptA at h
    rw [if_neg hc] at h
    exact absurd h.symm hn
theorem kptL_at {ls : List Lst} {out : List Int} {i j k : Nat} (hk : k < (kptL ls out i j).length) : ∃ q : Nat, (kptL ls out i j).getD k 0 = (q : Int) ∧ (hasB (lstAt ls i).s q = true ∨ hasB (lstAt ls j).s q = true) ∧ needB ls out i j q ls.length = true := by
  have hm : (kptL ls out i j).getD k 0 ∈ lab5 (kptP ls out i j) := by
    rw [show lab5 (kptP ls out i j) = kptL ls out i j from rfl]
    rw [List.getD_eq_getElem?_getD, List.getElem?_eq_getElem hk]
    exact List.getElem_mem hk
  obtain ⟨q, hq, hp, e⟩ := lab5_mem.1 hm
  unfold kptP at hp
  rw [Bool.and_eq_true, Bool.or_eq_true] at hp
  exact ⟨q, e, hp.1, hp.2⟩
set_option maxHeartbeats 12800000 in
theorem lawFnKeptLabels_of (hd : ∀ (a : Option Addr) (n cap : Nat) (w : World), BysIn w a n cap → Calls Try.prog 29 #[.slice a n cap] w (PDK w)) (a : Option Addr) (n cap : Nat) (w : World) (hb : BysIn w a n cap) :
    Calls Try.prog 6 #[.slice a n cap] w fun e w' => e = .returned (.bool true) ∧ Ext w w' := by
  have hcm := hb.1
  have hcm2 := hb.2.1
  unfold maxLen at hcm2
  go_enter Try.func6, Try.ntmps6
  by_cases hc1 : (1048576 : Int) < (n : Int)
  · go_wp2_with fail
    go_ret
    exact ⟨rfl, qXo⟩
  · go_wp2_with fail
    refine (hd a n cap _ hb).mono ?_
    rintro e w1 ⟨ts, ls, out, p0, p1, p2, c0, c1, c2, i, j, rfl, h1, h2, h3, ho, xw1⟩
    have X1 : Ext w w1 := Ext.trans qXt xw1
    clear xw1 hb hcm hcm2 hd
    have R1 : Ext w1 w1 := Ext.refl _
    have hll := h2.len
    replace h1 := Lib.hid h1
    replace h2 := Lib.hid h2
    replace h3 := Lib.hid h3
    obtain ⟨K, hK⟩ : ∃ K, kptA ts ls out i j = K := ⟨_, rfl⟩
    have hK5 : K.length ≤ 5 := by rw [← hK]; exact kptA_len _ _ _ _ _
    replace hK := Lib.hid hK
    go_wp2_with fail
    refine (implKeptLabels_c ts ls out _ _ _ i j _ 0 0 0 (h1.out.ext (R1.trans qXt)) (h2.out.ext (R1.trans qXt)) (h3.out.ext (R1.trans qXt)) ho).mono ?_
    rintro e w2 ⟨G, rfl, Gi, -, x2⟩
    have X2 : Ext w1 w2 := Ext.trans qXt x2
    clear x2
    rw [hK.out] at Gi
    obtain ⟨ga, gc, rfl⟩ := Gi.form
    replace Gi := Lib.hid (Gi.lower (Nat.zero_le _))
    go_wp2_with fail
    refine (specKeptLabels_c ts ls out _ _ _ i j _ 0 0 0 (h1.out.ext (X2.trans qXt)) (h2.out.ext (X2.trans qXt)) (h3.out.ext (X2.trans qXt)) ho).mono ?_
    rintro e w4 ⟨V, rfl, Vi, -, x4⟩
    have X4 : Ext w1 w4 := X2.trans (Ext.trans qXt x4)
    have E4 : Ext w2 w4 := Ext.trans qXt x4
    clear x4
    rw [hK.out] at Vi
    obtain ⟨va, vc, rfl⟩ := Vi.form
    replace Vi := Lib.hid (Vi.lower (Nat.zero_le _))
    go_wp2_with fail
    refine (leqInts_c K _ _ _ 0 0 (Gi.out.ext (E4.trans qXt)) (Vi.out.ext qXt)).mono ?_
    rintro e w3 ⟨rfl, x3⟩
    have X3 : Ext w1 w3 := X4.trans (Ext.trans qXt x3)
    have E3 : Ext w2 w3 := E4.trans (Ext.trans qXt x3)
    clear x3 Vi
    replace Gi := Lib.hid (Gi.out.ext E3)
    clear E3 E4 X4 X2
    by_cases hne : K = []
    · subst hne
      go_wp2_with fail
      refine (specKeptLabels_c ts ls out _ _ _ i j _ 0 0 0 (h1.out.ext (X3.trans qXt)) (h2.out.ext (X3.trans qXt)) (h3.out.ext (X3.trans qXt)) ho).mono ?_
      rintro e w5 ⟨V, rfl, Vi, -, x5⟩
      have X5 : Ext w3 w5 := Ext.trans qXt x5
      clear x5
      rw [hK.out] at Vi
      obtain ⟨va, vc, rfl⟩ := Vi.form
      replace Vi := Lib.hid (Vi.lower (Nat.zero_le _))
      go_wp2_with fail
      refine (leqInts_c [] _ _ _ 0 0 (Gi.out.ext (X5.trans qXt)) (Vi.out.ext qXt)).mono ?_
      rintro e w6 ⟨rfl, x6⟩
      have X6 : Ext w3 w6 := X5.trans (Ext.trans qXt x6)
      go_wp2_with fail
      go_ret
      exact ⟨rfl, ((X1.trans X3).trans X6).trans qXt⟩
    · obtain ⟨f1, f2, f3, f4, f5, f6, f7⟩ := kptA_facts hK.out hne
      have hK0 : 0 < K.length := List.length_pos_iff.2 hne
      have hKn : ¬ (K.length : Int) = 0 := by omega
      have hKb : ((K.length : Int) == 0) = false := by simpa using hKn
      obtain ⟨a, rfl⟩ : ∃ a : Nat, i = a := ⟨i.toNat, by omega⟩
      obtain ⟨b, rfl⟩ : ∃ b : Nat, j = b := ⟨j.toNat, by omega⟩
      rw [Int.toNat_natCast, Int.toNat_natCast] at f7
      have ha : a < ls.length := by omega
      have hb : b < ls.length := by omega
      have hasc : K.Pairwise (· < ·) := by rw [f7]; exact lab5_asc _
      have hK' : Hid (kptA ts ls out (b : Int) (a : Int) = K) := Lib.hid (by rw [← kptA_symm]; exact hK.out)
      replace hasc := Lib.hid hasc
      replace f7 := Lib.hid f7
      clear f1 f2 f3 f4 f5 f6 hne
      go_wp2_with fail
      go_loopw [9] (fun t wr => ∃ (k : Nat), k ≤ K.length ∧ t = .int .i64 k ∧ Ext w3 wr) (fun t _ => K.length - (intOf t).toNat)
      case atStart => exact ⟨0, Nat.zero_le _, rfl, qXt⟩
      case round =>
        obtain ⟨k, hk, rfl, Xr⟩ := hrel
        by_cases hlt : k < K.length
        · have hkI : (k : Int) < K.length := by omega
          obtain ⟨q, hq, hab, hnd⟩ := kptL_at (ls := ls) (out := out) (i := a) (j := b) (k := k) (by rw [← f7.out]; exact hlt)
          rw [← f7.out] at hq
          replace hab := Lib.hid hab
          replace hnd := Lib.hid hnd
          obtain ⟨bl, ol, rfl, e0⟩ := (Gi.out.ext Xr).at k hlt
          rw [hq] at e0
          replace hq := Lib.hid hq
          clear Gi
          go_wp2_with fail
          refine (isIn_b _ (needB_zero ls out a b q).symm (h3.out.ext ((X3.trans Xr).trans qXt))).mono ?_
          rintro e w6 ⟨rfl, x6⟩
          have X6 : Ext w1 w6 := (X3.trans Xr).trans (Ext.trans qXt x6)
          have Y6 : Ext w3 w6 := Xr.trans (Ext.trans qXt x6)
          clear x6
          go_wp2_with fail
          go_loopw [11, 12] (fun bb t wi => ∃ (m : Nat), m ≤ ls.length ∧ t = .int .i64 m ∧ bb = .bool (needB ls out a b q m) ∧ Ext w6 wi) (fun _ t _ => ls.length - (intOf t).toNat)
          case atStart => exact ⟨0, Nat.zero_le _, rfl, rfl, qXt⟩
          case round =>
            obtain ⟨m, hm, rfl, rfl, X7⟩ := hrel
            by_cases hlm : m < ls.length
            · have hmI : (m : Int) < ls.length := by omega
              cases hnb : needB ls out a b q m with
              | true =>
                have hn2 := needB_yes hnb
                replace hn2 := Lib.hid hn2
                clear hnb
                go_wp2_with fail
                go_roundw
                case rel => exact ⟨m + 1, by omega, by go_num, by rw [hn2.out], X7.trans qXt⟩
                case measure => simp [intOf]; omega
              | false =>
                by_cases hmi : m = a
                · have hn2 : needB ls out a b q (m+1) = false := by rw [needB_skip (.inl hmi)]; exact hnb
                  subst hmi
                  replace hn2 := Lib.hid hn2
                  clear hnb
                  go_wp2_with fail
                  go_roundw
                  case rel => exact ⟨m + 1, by omega, by go_num, by rw [hn2.out], X7.trans qXt⟩
                  case measure => simp [intOf]; omega
                · have hc : ¬ (m : Int) = (a : Int) := by omega
                  have hx1 : ((m : Int) != (a : Int)) = true := bne_iff_ne.mpr hc
                  by_cases hmj : m = b
                  · have hn2 : needB ls out a b q (m+1) = false := by rw [needB_skip (.inr hmj)]; exact hnb
                    subst hmj
                    replace hn2 := Lib.hid hn2
                    clear hnb
                    go_wp2_with fail
                    go_roundw
                    case rel => exact ⟨m + 1, by omega, by go_num, by rw [hn2.out], X7.trans qXt⟩
                    case measure => simp [intOf]; omega
                  · have hd : ¬ (m : Int) = (b : Int) := by omega
                    have hx2 : ((m : Int) != (b : Int)) = true := bne_iff_ne.mpr hd
                    have hn2 : hasB (lstAt ls m).s q = needB ls out a b q (m+1) := by rw [needB_go hmi hmj, hnb, Bool.false_or]
                    replace hn2 := Lib.hid hn2
                    clear hnb
                    obtain ⟨bm, om, u3, d3, rfl, z0, i3⟩ := (h2.out.ext (X6.trans X7)).at m hlm
                    replace i3 := Lib.hid i3
                    go_wp2_with fail
                    refine (isIn_b _ hn2.out (i3.out.ext qXt)).mono ?_
                    rintro e w8 ⟨rfl, x8⟩
                    have X8 : Ext w6 w8 := X7.trans (Ext.trans qXt x8)
                    clear x8
                    go_wp2_with fail
                    go_roundw
                    case rel => exact ⟨m + 1, by omega, by go_num, rfl, X8.trans qXt⟩
                    case measure => simp [intOf]; omega
            · obtain rfl : m = ls.length := by omega
              rw [hnd.out]
              have X9 := X6.trans X7
              obtain ⟨bi, oi, u4, d4, rfl, z4, i4⟩ := (h2.out.ext X9).at a ha
              obtain ⟨bj, oj, u5, d5, e5, z5, i5⟩ := (h2.out.ext X9).at b hb
              cases e5
              replace i4 := Lib.hid i4
              replace i5 := Lib.hid i5
              cases hi4 : hasB (lstAt ls a).s q with
              | true =>
                replace hi4 := Lib.hid hi4
                go_wp2_with fail
                refine (isIn_b _ hi4.out (i4.out.ext qXt)).mono ?_
                rintro e w10 ⟨rfl, x10⟩
                have Z10 : Ext w3 w10 := (Y6.trans X7).trans (Ext.trans qXt x10)
                clear x10
                go_wp2_with fail
                go_roundw
                case rel => exact ⟨k + 1, by omega, by go_num, Z10.trans qXt⟩
                case measure => simp [intOf]; omega
              | false =>
                have hi5 : hasB (lstAt ls b).s q = true := by
                  rcases hab.out with h | h
                  · rw [hi4] at h; cases h
                  · exact h
                replace hi4 := Lib.hid hi4
                replace hi5 := Lib.hid hi5
                go_wp2_with fail
                refine (isIn_b _ hi4.out (i4.out.ext qXt)).mono ?_
                rintro e w10 ⟨rfl, x10⟩
                have Y10 : Ext wr w10 := Ext.trans qXt x10
                have z5' := Y10.cell z5
                clear x10 z5
                go_wp2_with fail
                refine (isIn_b _ hi5.out (i5.out.ext (Y10.trans qXt))).mono ?_
                rintro e w11 ⟨rfl, x11⟩
                have Z11 : Ext w3 w11 := ((Y6.trans X7).trans Y10).trans (Ext.trans qXt x11)
                clear x11
                go_wp2_with fail
                go_roundw
                case rel => exact ⟨k + 1, by omega, by go_num, Z11.trans qXt⟩
                case measure => simp [intOf]; omega
        · obtain rfl : k = K.length := by omega
          have X9 : Ext w1 wr := X3.trans Xr
          replace Gi := Lib.hid (Gi.out.ext Xr)
          go_wp2_with fail
          refine (ascends_c K _ _ 0 (Gi.out.ext qXt) hasc.out).mono ?_
          rintro e w12 ⟨rfl, x12⟩
          have E12 : Ext wr w12 := Ext.trans qXt x12
          have X12 : Ext w1 w12 := X9.trans E12
          clear x12
          go_wp2_with fail
          refine (implKeptLabels_c ts ls out _ _ _ (b : Int) (a : Int) _ 0 0 0 (h1.out.ext (X12.trans qXt)) (h2.out.ext (X12.trans qXt)) (h3.out.ext (X12.trans qXt)) ho).mono ?_
          rintro e w13 ⟨V, rfl, Vi, -, x13⟩
          have E13 : Ext wr w13 := E12.trans (Ext.trans qXt x13)
          clear x13
          rw [hK'.out] at Vi
          obtain ⟨va, vc, rfl⟩ := Vi.form
          replace Vi := Lib.hid (Vi.lower (Nat.zero_le _))
          go_wp2_with fail
          refine (leqInts_c K _ _ _ 0 0 (Vi.out.ext qXt) (Gi.out.ext (E13.trans qXt))).mono ?_
          rintro e w14 ⟨rfl, x14⟩
          have E14 : Ext wr w14 := E13.trans (Ext.trans qXt x14)
          go_wp2_with fail
          go_ret
          exact ⟨rfl, (((X1.trans X3).trans Xr).trans E14).trans qXt⟩
end Go.Proofs.Ytpgkhjmboiepcaa

/- Walks: draws of tensors, labels and two numbers. -/
namespace Go.Proofs.Ytpgkhjmboiepcaa
open Go.RowKit
set_option linter.unusedVariables false
set_option maxRecDepth 100000

/-- tensors, labels and two numbers are drawn -/
def PPair (rb q : Nat) (w : World) (e : Ending) (w' : World) : Prop := ∃ (ts : List Ten) (ls : List Lst) (out : List Int) (p0 p1 p2 : Option Addr) (c0 c1 c2 : Nat) (i j : Int), e = .returned (.tuple #[.slice p0 ts.length c0, .slice p1 ls.length c1, .slice p2 out.length c2, .int .i64 i, .int .i64 j]) ∧
  Tens w' w.heap.size (.slice p0 ts.length c0) ts ∧ Lsts w' w.heap.size (.slice p1 ls.length c1) ls ∧ Ints w' w.heap.size (.slice p2 out.length c2) out ∧ out.length ≤ 1000 ∧ Rd w' rb q ∧ Chg rb (rb + 1) w w'
set_option maxHeartbeats 3200000 in
theorem pairOf_c (rb k : Nat) (w : World) (hr : Rd w rb k) (hk : k ≤ 300000) :
    Calls Try.prog 69 #[.pointer (some ⟨rb, 0, none⟩)] w (PPair rb (k + 500) w) := by
  have hlt := hr.lt
  go_enter Try.func69, Try.ntmps69
  go_wp2_with fail
  refine (oneLit_c #[.int .i64 3, .int .i64 3, .int .i64 2] 3 _ _ _ _ hr (by omega) (by rfl) (by rfl) (by constructor <;> simp) (by first | rfl | omega | simp)).mono ?_
  rintro e w1 ⟨m, rfl, hm, Rw1, Cw1⟩
  have Ew1 : Ext w (w.alloc (.cells #[.int .i64 3, .int .i64 3, .int .i64 2] 3)) := qXt
  have e_w1 := Ew1.size
  have zc_w1 := Cw1.size
  have Xw1 : Rch rb w w1 := Rch.step (Rch.ext (Rch.refl rb w) Ew1) Cw1
  have s_w1 : w.heap.size ≤ w1.heap.size := Xw1.size
  clear hr Cw1 Ew1
  replace hm : 1 ≤ m ∧ m ≤ 3 := by simp [litL] at hm; omega
  obtain ⟨many, rfl⟩ : ∃ q : Nat, m = q := ⟨m.toNat, by omega⟩
  go_wp2_with fail
  refine (productOf_c _ _ many _ Rw1 (by omega) (by omega) (by omega)).mono ?_
  rintro e w2 ⟨ts, ls, out, p0, p1, p2, c0, c1, c2, rfl, iT, iL, iO, ho, Rw2, Cw2⟩
  have zc_w2 := Cw2.size
  have Xw2 : Rch rb w w2 := Rch.step (Xw1) Cw2
  have s_w2 : w.heap.size ≤ w2.heap.size := Xw2.size
  clear Rw1 Cw2
  replace iT := iT.lower (lo' := w.heap.size) (by omega)
  replace iL := iL.lower (lo' := w.heap.size) (by omega)
  replace iO := iO.lower (lo' := w.heap.size) (by omega)
  go_wp2_with fail
  refine (oneLit_c #[.int .i64 0, .int .i64 1, .int .i64 2, .int .i64 0, .int .i64 (-1)] 5 _ _ _ _ Rw2 (by omega) (by rfl) (by rfl) (by constructor <;> simp) (by first | rfl | omega | simp)).mono ?_
  rintro e w3 ⟨i, rfl, hi, Rw3, Cw3⟩
  have Ew3 : Ext w2 (w2.alloc (.cells #[.int .i64 0, .int .i64 1, .int .i64 2, .int .i64 0, .int .i64 (-1)] 3)) := qXt
  have e_w3 := Ew3.size
  have zc_w3 := Cw3.size
  have Xw3 : Rch rb w w3 := Rch.step (Rch.ext Xw2 Ew3) Cw3
  replace iT := (iT.ext Ew3).chg Cw3 (by omega)
  replace iL := (iL.ext Ew3).chg Cw3 (by omega)
  replace iO := (iO.ext Ew3).chg Cw3 (by omega)
  have s_w3 : w.heap.size ≤ w3.heap.size := Xw3.size
  clear Rw2 Cw3 Ew3
  clear hi
  go_wp2_with fail
  refine (oneLit_c #[.int .i64 1, .int .i64 2, .int .i64 0, .int .i64 1, .int .i64 3] 5 _ _ _ _ Rw3 (by omega) (by rfl) (by rfl) (by constructor <;> simp) (by first | rfl | omega | simp)).mono ?_
  rintro e w4 ⟨j, rfl, hj, Rw4, Cw4⟩
  have Ew4 : Ext w3 (w3.alloc (.cells #[.int .i64 1, .int .i64 2, .int .i64 0, .int .i64 1, .int .i64 3] 3)) := qXt
  have e_w4 := Ew4.size
  have zc_w4 := Cw4.size
  have Xw4 : Rch rb w w4 := Rch.step (Rch.ext Xw3 Ew4) Cw4
  replace iT := (iT.ext Ew4).chg Cw4 (by omega)
  replace iL := (iL.ext Ew4).chg Cw4 (by omega)
  replace iO := (iO.ext Ew4).chg Cw4 (by omega)
  have s_w4 : w.heap.size ≤ w4.heap.size := Xw4.size
  clear Rw3 Cw4 Ew4
  clear hj
  go_wp2_with fail
  refine bodyPost_ret (v := .tuple #[.slice p0 ts.length c0, .slice p1 ls.length c1, .slice p2 out.length c2, .int .i64 i, .int .i64 j]) (by simp only [results, Try.results69]; go_simp) rfl ?_
  exact ⟨ts, ls, out, _, _, _, _, _, _, i, j, rfl, iT, iL, iO, ho, Rw4.mono (by omega), Xw4⟩
set_option maxHeartbeats 3200000 in
theorem drawKeptLabels_c (a : Option Addr) (n cap : Nat) (w : World) (hb : BysIn w a n cap) :
    Calls Try.prog 29 #[.slice a n cap] w (PDK w) := by
  go_enter Try.func29, Try.ntmps29
  go_wp2_with fail
  refine (newReader_c a n cap _ (hb.ext qXt)).mono ?_
  rintro e w1 ⟨rfl, hr, xw1⟩
  have Lw1 : Ext w w1 := Ext.trans qXt xw1
  have Xw1 : Ext w w1 := Lw1
  have s_w1 : w.heap.size ≤ w1.heap.size := Xw1.size
  clear xw1
  have z1 := hr.lt
  clear hb
  go_wp2_with fail
  refine (pairOf_c _ _ _ hr (by omega)).mono ?_
  rintro e w2 ⟨ts, ls, out, p0, p1, p2, c0, c1, c2, i, j, rfl, iT, iL, iO, ho, Rw2, Cw2⟩
  have zc_w2 := Cw2.size
  have Xw2 : Ext w w2 := Rch.toExt' Cw2 (by omega) (Xw1)
  have s_w2 : w.heap.size ≤ w2.heap.size := Xw2.size
  clear hr Cw2
  go_wp2_with fail
  refine bodyPost_ret (v := .tuple #[.slice p0 ts.length c0, .slice p1 ls.length c1, .slice p2 out.length c2, .int .i64 i, .int .i64 j]) (by simp only [results, Try.results29]; go_simp) rfl ?_
  exact ⟨ts, ls, out, _, _, _, _, _, _, i, j, rfl, iT.lower (Nat.zero_le _), iL.lower (Nat.zero_le _), iO.lower (Nat.zero_le _), by omega, Xw2⟩
end Go.Proofs.Ytpgkhjmboiepcaa

/- FnKeptLabels returns true. -/
namespace Go.Proofs.Ytpgkhjmboiepcaa
open Go.RowKit
set_option linter.unusedVariables false
set_option maxRecDepth 100000

theorem lawFnKeptLabels_c (a : Option Addr) (n cap : Nat) (w : World) (hb : BysIn w a n cap) :
    Calls Try.prog 6 #[.slice a n cap] w fun e w' => e = .returned (.bool true) ∧ Ext w w' := lawFnKeptLabels_of drawKeptLabels_c a n cap w hb

end Go.Proofs.Ytpgkhjmboiepcaa

/- The law FnKeptLabels holds for all bytes: the call returns true, and its argument reads as it did. No condition. -/
namespace Go.Proofs.Ytpgkhjmboiepcaa.rowFnKeptLabels
open Go.ChangeShapes Go.WideShapes Go.ChangeAt Go.RowKit
set_option linter.unusedVariables false

set_option maxHeartbeats 1000000 in
set_option maxRecDepth 100000 in
theorem lifted (os : Os) (started : os.Started) (H : Type) (enc : TypeId × Value → H) :
    ReturnsInHanded {} Try.checked os 6 .any (Rows.fnKeptLabelsSpec.pre6 enc Try.prog Try.f6 Rows.fnKeptLabelsRow.domain false) (Rows.fnKeptLabelsSpec.post enc Try.prog Try.f6 false true false false) := by
  refine returnsInHanded_of_change (C := Try.checked) own started qKr Try.func6
    (ChangeSpec.witness6 (enc := enc) (C := Try.checked) false ⟨#[], #[.slice none 0 0], []⟩ 8 qKr qKr qKr qKr) ?_
  intro W base args ds gs before hval0 hW hcnd _
  have hval : ∀ (j : Nat) t v, Try.f6.params[j]? = some t → args[j]? = some v → Value.okWide Try.prog W .any base t v := hval0
  have hW' := hW
  obtain ⟨p, q, hA0, hV, rfl, hfz, hnd⟩ := hW
  have hA : DataW.TrodAll enc Try.prog W 0 (fun _ => true) true Try.f6.params.toList args.toList ds p := hA0
  rw [Try.params6] at hA hval
  obtain ⟨v0, vs0, d0, ds0, p0, q0, hargs0, rfl, rfl, h0, r0⟩ := trodAll_cons hA
  obtain ⟨rfl, rfl, rfl⟩ := trodAll_nil r0
  obtain rfl : args = #[v0] := by cases args; simp_all
  obtain ⟨rfl, rfl⟩ := trodVars_none hV
  obtain ⟨a0, len0, cap0, rfl⟩ := okWide_slice Try.underlying22 (hval 0 22 v0 rfl rfl)
  have k0 := h0
  have lt0 : ∀ x ∈ p0, x.block < W.heap.size := by obtain ⟨m, hm⟩ := k0; exact DataW.trod_lt m _ _ _ hm
  have w0 : BysIn W a0 len0 cap0 := by
    obtain ⟨fuel, hf⟩ := h0
    rcases open_ints Try.underlying22 Try.underlying5 qKr hf with ⟨hcs, _⟩ | ⟨x, l, c, zs, hcs, _, hl, hm, hz, _, hcell, hwz⟩
    · simp [Value.cells] at hcs
      obtain ⟨rfl, rfl, rfl⟩ := hcs
      exact ⟨Nat.le_refl _, by simp, fun i hi => absurd hi (by simp)⟩
    · simp [Value.cells] at hcs
      obtain ⟨rfl, rfl, rfl⟩ := hcs
      have hzl : zs.length = cap0 := by simpa using hz
      exact bys_of_cells hl hm hzl hcell hwz
  clear hA0 hval0
  refine (lawFnKeptLabels_c a0 len0 cap0 W w0).mono fun e W' ⟨he, bel⟩ => ?_
  subst he
  exact ⟨_, rfl, _, _, _, [], _, [], hW', trodAll_mk1 (shut_bool Try.underlying4 _), (trodAll_cons_mk (Below.trod laidOut qKr (of_decide_eq_true qKr) k0 bel lt0) trodAll_mk0), rfl, Below.frame bel _, fun h => by cases h⟩

set_option maxHeartbeats 2000000 in
theorem closed : joinedFacts Try.checked.prog 6 Try.f6 Rows.fnKeptLabelsSpec Rows.fnKeptLabelsRow = true :=
  facts.all qKr qKr qKr qKr qKr (by as_aux_lemma => kernel_rfl) (by as_aux_lemma => kernel_rfl) (by as_aux_lemma => kernel_rfl) (by as_aux_lemma => kernel_rfl)
    (by as_aux_lemma => kernel_rfl) (by as_aux_lemma => kernel_rfl) rfl rfl rfl rfl qKr qKr (by as_aux_lemma => kernel_rfl) (by as_aux_lemma => kernel_rfl)

theorem named : Try.pinned.checked.prog.funcNamed Rows.fnKeptLabelsRow.func = some 6 := by kernel_rfl

theorem over : Rows.fnKeptLabelsRow.holds Try.pinned (OpenSpec.ofChange Rows.fnKeptLabelsSpec) :=
  OpenClaim.holds_of_wide 6 Try.f6 rfl rfl rfl rfl rfl rfl rfl ⟨rfl, rfl, rfl, rfl, rfl⟩ rfl rfl rfl rfl rfl named Try.func6 closed
    (of_decide_eq_true qKr) (by unfold Func.isWrapper; exact ⟨rfl, rfl⟩)
    (fun os started H enc _ => lifted os started H enc)

theorem proved : Rows.FnKeptLabelsSaid := over

end Go.Proofs.Ytpgkhjmboiepcaa.rowFnKeptLabels
