/- Walks: one to one views, what two views have, and the program's exported questions about them. -/
import Derived.Test.YtfdpoepidlmbaaaViewD
namespace Go.Proofs.Ytfdpoepidlmbaaa
open Go.RowKit
set_option linter.unusedVariables false
set_option maxRecDepth 100000

theorem offs_len {base : Int} {shape strides : List Int} (h : viewB base shape strides = true) : (offsL base shape strides).length ≤ 60 := by
  obtain ⟨h1, _⟩ := viewB_in h
  have := shapeB_in h1
  simp [offsL]; omega
theorem cells_len {base : Int} {shape strides : List Int} (h : viewB base shape strides = true) : (cellsL base shape strides).length ≤ 60 := by
  have := offs_len h
  have h2 := compact_len_le (sortL (offsL base shape strides))
  rw [sortL_len] at h2; unfold cellsL; omega

def oneB (base : Int) (shape strides : List Int) : Bool := ((cellsL base shape strides).length : Int) == countL shape

set_option maxHeartbeats 400000 in
theorem isOneToOne_c (base : Int) (sh st : Value) (shape strides : List Int) (w : World) (lo lo' : Nat) (hsh : Ints w lo sh shape) (hst : Ints w lo' st strides) (hvb : viewB base shape strides = true) :
    Calls Try.prog 138 #[.agg #[.int .i64 base, sh, st]] w fun e w' => e = .returned (.bool (oneB base shape strides)) ∧ Ext w w' := by
  have hvb := Lib.hid hvb
  go_enter Try.func138, Try.ntmps138
  go_wp2_with fail
  have hx0 : Ext w (w.alloc (.cells #[.int .i64 base, sh, st] 36)) := (Ext.refl _).alloc _
  go_region_held3 (fun w' => w'.cell? ⟨w.heap.size, 0, none⟩ = some (.int .i64 base) ∧ w'.cell? ⟨w.heap.size, 1, none⟩ = some sh ∧ w'.cell? ⟨w.heap.size, 2, none⟩ = some st)
    (first
      | go_keep
      | exact ⟨X1.cell (by simp), X1.cell (by simp), X1.cell (by simp)⟩)
    (first
      | (go_at_call 164; refine (cellsOf_c base _ _ shape strides _ lo lo' (hsh.ext (hx0.trans (by repeat (first | exact Ext.refl _ | assumption | apply Ext.drewN | apply Ext.drew | apply Ext.alloc)))) (hst.ext (hx0.trans (by repeat (first | exact Ext.refl _ | assumption | apply Ext.drewN | apply Ext.drew | apply Ext.alloc)))) hvb.out).mono ?_; rintro e w1 ⟨v1, rfl, hi1, _, hx1⟩; obtain ⟨a1, c1, rfl⟩ := hi1.form; have X1 : Ext (w.alloc (.cells #[.int .i64 base, sh, st] 36)) w1 := Ext.trans (by repeat (first | exact Ext.refl _ | assumption | apply Ext.drewN | apply Ext.drew | apply Ext.alloc)) hx1)
      | (go_at_call 203; refine (countOf_c shape _ _ lo (hsh.ext (hx0.trans (by repeat (first | exact Ext.refl _ | assumption | apply Ext.drewN | apply Ext.drew | apply Ext.alloc))))).mono ?_; rintro e w' ⟨rfl, rfl⟩))
  all_goals
    go_wp2_with fail
    go_ret
    exact ⟨rfl, hx0.trans X1⟩

def overL (a b : List Int) : List Int := a.filter fun x => hasB b x
theorem overL_take (a b : List Int) (k : Nat) (hk : k < a.length) : overL (a.take (k+1)) b = overL (a.take k) b ++ if hasB b a[k] then [a[k]] else [] := by
  unfold overL; rw [List.take_succ_eq_append_getElem hk, List.filter_append]; congr 1; simp only [List.filter_cons, List.filter_nil]
theorem overL_len (a b : List Int) : (overL a b).length ≤ a.length := List.length_filter_le _ _

set_option maxHeartbeats 1000000 in
theorem overlapOf_c (base : Int) (sh st : Value) (shape strides : List Int) (base2 : Int) (sh2 st2 : Value) (shape2 strides2 : List Int) (w : World) (la lb lc ld : Nat)
    (hsh : Ints w la sh shape) (hst : Ints w lb st strides) (hsh2 : Ints w lc sh2 shape2) (hst2 : Ints w ld st2 strides2) (hvb : viewB base shape strides = true) (hvb2 : viewB base2 shape2 strides2 = true) :
    Calls Try.prog 137 #[.agg #[.int .i64 base, sh, st], .agg #[.int .i64 base2, sh2, st2]] w (PInts w (overL (cellsL base shape strides) (cellsL base2 shape2 strides2))) := by
  have hl1 := cells_len hvb
  have hvb := Lib.hid hvb
  have hvb2 := Lib.hid hvb2
  go_enter Try.func137, Try.ntmps137
  go_wp2_with fail
  refine (cellsOf_c base2 _ _ shape2 strides2 _ lc ld (hsh2.ext (by repeat (first | exact Ext.refl _ | assumption | apply Ext.drewN | apply Ext.drew | apply Ext.alloc))) (hst2.ext (by repeat (first | exact Ext.refl _ | assumption | apply Ext.drewN | apply Ext.drew | apply Ext.alloc))) hvb2.out).mono ?_
  rintro e w1 ⟨v1, rfl, hi1, _, hx1⟩
  have R1 := hx1.rule
  have X1 : Ext w w1 := Ext.trans (by repeat (first | exact Ext.refl _ | assumption | apply Ext.drewN | apply Ext.drew | apply Ext.alloc)) hx1
  have hz1 := hx1.size
  simp at hz1
  have hz1a : w.heap.size < w1.heap.size := by omega
  have hz1b : w.heap.size + 1 < w1.heap.size := by omega
  go_wp2_with fail
  refine (cellsOf_c base _ _ shape strides _ la lb (hsh.ext (X1.trans (by repeat (first | exact Ext.refl _ | assumption | apply Ext.drewN | apply Ext.drew | apply Ext.alloc)))) (hst.ext (X1.trans (by repeat (first | exact Ext.refl _ | assumption | apply Ext.drewN | apply Ext.drew | apply Ext.alloc)))) hvb.out).mono ?_
  rintro e w2 ⟨v2, rfl, hi2, _, hx2⟩
  have X12 : Ext w1 w2 := Ext.trans (by repeat (first | exact Ext.refl _ | assumption | apply Ext.drewN | apply Ext.drew | apply Ext.alloc)) hx2
  have ho2 : OwnI w2 w1.heap.size (.slice (some ⟨w1.heap.size, 0, none⟩) 0 0) [] := (OwnI.lit0 w1 w1.heap.size (Nat.le_refl _)).ext hx2
  have hi1' := hi1.ext X12
  have hz2 := X12.size
  obtain ⟨a2, cap2, rfl⟩ := hi2.form
  have hne0 : ∀ b off, a2 = some ⟨b, off, none⟩ → cellsL base shape strides ≠ [] → some w1.heap.size ≠ some b := by
    intro b off h1 h2 h3
    obtain ⟨b', off', h4, h5, _⟩ := hi2.blk h2
    rw [h1] at h4; cases h4; cases h3; simp at h5; omega
  obtain ⟨a3, cap3, rfl⟩ := hi1.form
  have hne1 : ∀ b off, a3 = some ⟨b, off, none⟩ → cellsL base2 shape2 strides2 ≠ [] → some w1.heap.size ≠ some b := by
    intro b off h1 h2 h3
    obtain ⟨b', off', h4, h5, h6⟩ := hi1.blk h2
    rw [h1] at h4; cases h4; cases h3; omega
  clear R1 hx1 hi1
  have hne0 := Lib.hid hne0
  have hne1 := Lib.hid hne1
  go_wp2_with fail
  go_loopw [6, 15] (fun v i wr => ∃ k : Nat, k ≤ (cellsL base shape strides).length ∧ i = .int .i64 k ∧ OwnI wr w1.heap.size v (overL ((cellsL base shape strides).take k) (cellsL base2 shape2 strides2)) ∧ Below w1.heap.size w1 wr ∧
     Ints wr 0 (.slice a2 (cellsL base shape strides).length cap2) (cellsL base shape strides) ∧ Ints wr 0 (.slice a3 (cellsL base2 shape2 strides2).length cap3) (cellsL base2 shape2 strides2) ∧ w1.heap.size ≤ wr.heap.size ∧
     (∀ b off, a2 = some ⟨b, off, none⟩ → cellsL base shape strides ≠ [] → v.ownBlock ≠ some b) ∧ (∀ b off, a3 = some ⟨b, off, none⟩ → cellsL base2 shape2 strides2 ≠ [] → v.ownBlock ≠ some b)) (fun _ i _ => (cellsL base shape strides).length - (intOf i).toNat)
  case atStart => exact ⟨0, Nat.zero_le _, rfl, ho2, X12, hi2.lower (Nat.zero_le _), hi1'.lower (Nat.zero_le _), hz2, hne0.out, hne1.out⟩
  case round =>
    obtain ⟨k, hk, rfl, ho, hb, hic, hic2, hz, hn0, hn1⟩ := hrel
    have hn0 := Lib.hid hn0
    have hn1 := Lib.hid hn1
    by_cases hlt : k < (cellsL base shape strides).length
    · have hic' := Lib.hid hic
      have hic2' := Lib.hid hic2
      obtain ⟨_, _, hv, _, _, ⟨hl4, _⟩, hc⟩ := hic
      cases hv
      obtain ⟨b, off, rfl, _, hcell, _⟩ := hc k hlt
      have hs := Lib.hid (overL_take (cellsL base shape strides) (cellsL base2 shape2 strides2) k hlt)
      have hll := Lib.hid (overL_len ((cellsL base shape strides).take k) (cellsL base2 shape2 strides2))
      have hgd : (cellsL base shape strides).getD k 0 = (cellsL base shape strides)[k] := by simp [hlt]
      rw [hgd] at hcell
      clear hc hgd
      cases h1 : hasB (cellsL base2 shape2 strides2) (cellsL base shape strides)[k]
      · have h1' := Lib.hid h1
        go_wp2_with (go_at_call 148; refine (contains_c _ _ _ _ 0 hic2'.out).mono ?_; rintro e w' ⟨rfl, rfl⟩)
        go_roundw
        case rel => exact ⟨k+1, by omega, by go_num, by rw [hs.out, h1'.out]; simpa using ho, hb, hic'.out, hic2'.out, hz, hn0.out, hn1.out⟩
        case measure => simp [intOf]; omega
      · have h1' := Lib.hid h1
        go_wp2_with fail
        refine (contains_c _ _ _ _ 0 hic2'.out).mono ?_; rintro e w' ⟨rfl, rfl⟩
        go_wp2_with (at_builtin; refine wpList_app rfl (.tmp 22) (.tmp 24) rfl rfl rfl (ho.ext ((Ext.refl _).alloc _)) (Ints.one _ 0 _ (Nat.zero_le _)) (by have := hll.out; simp only [List.length_cons, List.length_nil, List.length_take] at this ⊢; omega) (by simp; omega) ?_)
        intro v' w3 ho3 hg3 hb3 hv3
        have hcell3 := (hic'.out.ext ((Ext.refl _).alloc (.cells #[.int .i64 (cellsL base shape strides)[k]] 3))).keepG hg3 hn0.out
        have hcell4 := (hic2'.out.ext ((Ext.refl _).alloc (.cells #[.int .i64 (cellsL base shape strides)[k]] 3))).keepG hg3 hn1.out
        have hb4 := (hb.alloc hz (.cells #[.int .i64 (cellsL base shape strides)[k]] 3)).trans hb3
        have hz4 := hb3.size
        simp at hz4
        have hv3 := Lib.hid hv3
        have ho3 := Lib.hid ho3
        have hcell3 := Lib.hid hcell3
        have hcell4 := Lib.hid hcell4
        clear hg3 hb3 ho hb hcell
        go_wp2_with fail
        go_roundw
        case rel =>
          refine ⟨k+1, by omega, by go_num, by rw [hs.out, h1'.out]; simpa using ho3.out, hb4, hcell3.out, hcell4.out, by omega, ?_, ?_⟩
          · intro b' off' e1 e2
            rcases hv3.out with h | h
            · rw [h]; exact hn0.out _ _ e1 e2
            · rw [h]
              obtain ⟨b'', off'', e3, _, e4⟩ := hic'.out.blk e2
              rw [e1] at e3; cases e3; simp; omega
          · intro b' off' e1 e2
            rcases hv3.out with h | h
            · rw [h]; exact hn1.out _ _ e1 e2
            · rw [h]
              obtain ⟨b'', off'', e3, _, e4⟩ := hic2'.out.blk e2
              rw [e1] at e3; cases e3; simp; omega
        case measure => simp [intOf]; omega
    · obtain rfl : k = (cellsL base shape strides).length := by omega
      have ho := Lib.hid ho
      clear hic
      go_wp2_with fail
      go_ret
      refine PInts.mk (by have := ho.out; rw [List.take_length] at this; exact this) (by omega) ?_ (X1.below hb (by omega))
      have := overL_len (cellsL base shape strides) (cellsL base2 shape2 strides2); omega

end Go.Proofs.Ytfdpoepidlmbaaa
