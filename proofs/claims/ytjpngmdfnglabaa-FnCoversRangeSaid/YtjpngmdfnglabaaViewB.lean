/- Walks of the program's views. -/
import Derived.Test.YtjpngmdfnglabaaViewA
namespace Go.Proofs.Ytjpngmdfnglabaa
open Go.RowKit
set_option linter.unusedVariables false
set_option maxRecDepth 100000

/-- a closure that only computes: what it answers -/
def Asks (F : Nat) (cs : Array Value) (w : World) (p : Int → Bool) : Prop :=
  (∃ fn, Try.prog.funcs[F]? = some fn ∧ fn.body.isSome = true ∧ fn.name ≠ "runtime.NumGoroutine") ∧
  ∀ x, Calls Try.prog F (#[.int .i64 x] ++ cs) w fun e w' => e = .returned (.bool (p x)) ∧ w = w'

theorem run_callFunc (F : Nat) (args : Array Value) (w : World) (h : ∃ fn, Try.prog.funcs[F]? = some fn ∧ fn.body.isSome = true ∧ fn.name ≠ "runtime.NumGoroutine") :
    (callFunc F args).run Try.prog w = .ok (.enter F args) w := by
  obtain ⟨fn, hf, hb, hn⟩ := h
  unfold callFunc
  have : fn.body.isNone = false := by cases h : fn.body <;> simp_all
  simp [hf, hn]
  intro h; simp [h] at hb

theorem any_take {α : Type} (p : α → Bool) (xs : List α) (k : Nat) (hk : k < xs.length) (h : (xs.take k).any p = false) (hx : p xs[k] = false) : (xs.take (k+1)).any p = false := by
  rw [List.take_succ_eq_append_getElem hk, List.any_append, h]; simp [hx]
theorem any_yes {α : Type} (p : α → Bool) (xs : List α) (k : Nat) (hk : k < xs.length) (hx : p xs[k] = true) : xs.any p = true := List.any_eq_true.2 ⟨_, List.getElem_mem hk, hx⟩

def findI (p : Int → Bool) (xs : List Int) : Int := if xs.any p then (xs.findIdx p : Int) else -1
theorem findI_yes (p : Int → Bool) (xs : List Int) (k : Nat) (hk : k < xs.length) (h : (xs.take k).any p = false) (hx : p xs[k] = true) : findI p xs = k := by
  unfold findI; rw [if_pos (any_yes p xs k hk hx)]
  congr 1
  have h1 : xs.findIdx p ≤ k := by
    rw [← Nat.lt_succ_iff]
    exact (List.findIdx_lt_length_of_exists ⟨_, List.getElem_mem hk, hx⟩ |> fun _ => Nat.lt_succ_of_le (by
      rcases Nat.lt_or_ge k (xs.findIdx p) with h' | h'
      · have := List.not_of_lt_findIdx h'; simp [hx] at this
      · exact h'))
  rcases Nat.lt_or_ge (xs.findIdx p) k with h' | h'
  · have hl : xs.findIdx p < xs.length := by omega
    have := List.findIdx_getElem (w := hl)
    rw [Bool.eq_false_iff] at h
    exact absurd (List.any_eq_true.2 ⟨xs[xs.findIdx p], List.mem_take_iff_getElem.2 ⟨_, by omega, rfl⟩, this⟩) h
  · omega
theorem findI_no (p : Int → Bool) (xs : List Int) (h : xs.any p = false) : findI p xs = -1 := by simp [findI, h]

set_option maxHeartbeats 400000 in
theorem indexFunc_c (F : Nat) (cs : Array Value) (p : Int → Bool) (xs : List Int) (v : Value) (w : World) (lo : Nat) (hv : Ints w lo v xs) (hF : Asks F cs w p) :
    Calls Try.prog 103 #[v, .func (.func F) #[] cs] w fun e w' => e = .returned (.int .i64 (findI p xs)) ∧ w = w' := by
  obtain ⟨hf, hF⟩ := hF
  have hr := fun args w => run_callFunc F args w hf
  obtain ⟨a, cap, rfl, hlc, hcm, ⟨hlen, _⟩, hc⟩ := hv
  go_enter Try.func103, Try.ntmps103
  go_wp2_with fail
  go_loop [8] (fun i => ∃ k : Nat, k ≤ xs.length ∧ i = .int .i64 k ∧ (xs.take k).any p = false) (fun i => xs.length - (intOf i).toNat)
  case atStart => exact ⟨0, Nat.zero_le _, rfl, rfl⟩
  case round =>
    obtain ⟨k, hk, rfl, hall0⟩ := hrel
    have hall := Lib.hid hall0
    clear hall0
    by_cases hlt : k < xs.length
    · obtain ⟨b, off, rfl, _, hcell, _⟩ := hc k hlt
      clear hc
      cases hp : p xs[k]
      · go_wp2_with fail
        refine (hF _).mono ?_
        rintro e w' ⟨rfl, rfl⟩
        go_wp2_with fail
        go_round
        case rel => exact ⟨k+1, by omega, by go_num, any_take p xs k hlt hall.out hp⟩
        case measure => simp [intOf]; omega
      · have hs := Lib.hid (findI_yes p xs k hlt hall.out hp)
        go_wp2_with fail
        refine (hF _).mono ?_
        rintro e w' ⟨rfl, rfl⟩
        go_wp2_with fail
        go_ret
        exact ⟨by rw [hs.out]; rfl, rfl⟩
    · obtain rfl : k = xs.length := by omega
      go_wp2_with fail
      go_ret
      exact ⟨by rw [findI_no p xs (by simpa using hall.out)]; rfl, rfl⟩

theorem findI_ge (p : Int → Bool) (xs : List Int) : decide (0 ≤ findI p xs) = xs.any p := by
  unfold findI; cases h : xs.any p <;> simp

set_option maxHeartbeats 400000 in
theorem containsFunc_c (F : Nat) (cs : Array Value) (p : Int → Bool) (xs : List Int) (v : Value) (w : World) (lo : Nat) (hv : Ints w lo v xs) (hF : Asks F cs w p) :
    Calls Try.prog 59 #[v, .func (.func F) #[] cs] w fun e w' => e = .returned (.bool (xs.any p)) ∧ w = w' := by
  have hg := Lib.hid (findI_ge p xs)
  go_enter Try.func59, Try.ntmps59
  go_wp2_with (go_at_call 103; refine (indexFunc_c F cs p xs _ _ lo hv hF).mono ?_; rintro e w' ⟨rfl, rfl⟩)
  go_ret
  exact ⟨by rw [← hg.out]; rfl, rfl⟩

/-- the closure of isView: a cell that is none of a memory -/
def outB (x : Int) : Bool := decide (x < 0) || decide (60 ≤ x)
theorem isViewF_c (w : World) : Asks 108 #[] w outB := by
  refine ⟨⟨Try.f108, Try.func108, rfl, by decide +kernel⟩, fun x => ?_⟩
  rw [show (#[Value.int .i64 x] ++ #[]) = #[.int .i64 x] by simp]
  by_cases h : x < 0
  · go_enter Try.func108, Try.ntmps108
    go_wp2_with fail
    go_ret
    exact ⟨by simp [outB, h], rfl⟩
  · have h' : ¬ (x < 0) := h
    go_enter Try.func108, Try.ntmps108
    go_wp2_with fail
    go_ret
    exact ⟨by simp [outB]; omega, rfl⟩

def offsL (base : Int) (shape strides : List Int) : List Int :=
  (List.range (countL shape).toNat).map fun (k : Nat) => dotL base (unrL shape k).1 strides

theorem offs_len_small : True := trivial
set_option maxHeartbeats 400000 in
theorem offsetsOf_c (base : Int) (sh st : Value) (shape strides : List Int) (w : World) (lo lo' : Nat) (hsh : Ints w lo sh shape) (hst : Ints w lo' st strides)
    (hl : shape.length ≤ strides.length) (hp : 0 < countL shape → ∀ e ∈ shape, 1 ≤ e) (hcnt : countL shape ≤ 1000000) :
    Calls Try.prog 73 #[.agg #[.int .i64 base, sh, st]] w (PInts w (offsL base shape strides)) := by
  obtain ⟨i0, hi, hz0, hz1, hz2⟩ := info_parts infoInt
  go_enter Try.func73, Try.ntmps73
  go_wp2_with (go_at_call 72; refine (countOf_c shape _ _ lo (hsh.ext ((Ext.refl _).alloc _ |>.alloc _))).mono ?_; rintro e w' ⟨rfl, rfl⟩)
  go_loopw [3, 9] (fun v i wr => ∃ k : Nat, k ≤ (offsL base shape strides).length ∧ i = .int .i64 k ∧ OwnI wr (w.heap.size + 1) v ((offsL base shape strides).take k) ∧
      wr.cell? ⟨w.heap.size, 0, none⟩ = some (.int .i64 base) ∧ wr.cell? ⟨w.heap.size, 1, none⟩ = some sh ∧ wr.cell? ⟨w.heap.size, 2, none⟩ = some st ∧ Ext w wr ∧ w.heap.size < wr.heap.size)
    (fun _ i _ => (offsL base shape strides).length - (intOf i).toNat)
  case atStart =>
    refine ⟨0, Nat.zero_le _, rfl, ?_, by simp, by simp, by simp, (Ext.refl _).alloc _ |>.alloc _, by simp; omega⟩
    simpa using OwnI.lit0 (w.alloc (.cells #[.int .i64 base, sh, st] 37)) (w.heap.size + 1) (by simp)
  case round =>
    obtain ⟨k, hk, rfl, ho, c0, c1, c2, hx, hz⟩ := hrel
    have hlen : (offsL base shape strides).length = (countL shape).toNat := by simp [offsL]
    by_cases hlt : k < (offsL base shape strides).length
    · have hkc : (k : Int) < countL shape := by omega
      go_wp2_with fail
      have hz2 : w.heap.size + 1 ≤ wr.heap.size := hz
      go_region_law (first
        | (go_simp; go_at_call 112; refine (indexAt_c shape _ (k : Int) _ lo (hsh.ext (by exact hx.drew)) (by omega) (by omega) (hp (by omega))).mono ?_; rintro e w1 ⟨v1, rfl, hi1, _, hx1⟩; have hr1 : ∀ b o, b < wr.heap.size → w1.cell? ⟨b, o, none⟩ = wr.cell? ⟨b, o, none⟩ := hx1.rule)
        | (go_simp; go_at_call 111; refine (offsetAt_c base _ _ _ strides _ _ lo' _ (hst.ext (by exact hx.trans (Ext.trans ((Ext.refl _).drew) hx1))) hi1 (by rw [unrL_len]; exact hl)).mono ?_; rintro e w2 ⟨rfl, hx2'⟩; have hs2 := hx2'.size; have hs1 := hx1.size; have hx2 : Ext wr w2 := (Ext.trans ((Ext.refl _).drew) hx1).trans hx2'; have hr2 : ∀ b o, b < wr.heap.size → w2.cell? ⟨b, o, none⟩ = wr.cell? ⟨b, o, none⟩ := hx2.rule)
        | (refine step_app rfl (.tmp 12) (.tmp 19) rfl rfl rfl ((ho.ext hx2).ext ((Ext.refl _).alloc _)) (Ints.one _ 0 _ (Nat.zero_le _)) (by simp; omega) (by simp at hs1; simp; omega) ?_; intro v' w3 ho3 hg3 hb3 _))
      all_goals
        have hxa := (hx.trans hx2).alloc (.cells #[.int .i64 (dotL base (unrL shape k).1 strides)] 3)
        have d0 := below_cell hb3 (b := w.heap.size) (by omega) (((Ext.alloc hx2 _).cell c0))
        have d1 := below_cell hb3 (b := w.heap.size) (by omega) (((Ext.alloc hx2 _).cell c1))
        have d2 := below_cell hb3 (b := w.heap.size) (by omega) (((Ext.alloc hx2 _).cell c2))
        have hz3 := hb3.size
        simp at hz3 hs1
        have ho4 : OwnI w3 (w.heap.size + 1) v' ((offsL base shape strides).take (k+1)) := by
          rw [List.take_succ_eq_append_getElem hlt]
          simpa [offsL] using ho3
        have hx3 := hxa.below hb3 (by omega)
        clear ho3 hg3 hb3 hxa hr1 hr2 hx2 hx2' hx1 ho
        go_wp2_with fail
        go_roundw
        case rel => exact ⟨k+1, by omega, by go_num, ho4, d0, d1, d2, hx3, by omega⟩
        case measure => simp [intOf]; omega
    · have hkk : k = (offsL base shape strides).length := by omega
      have hge : ¬ (k : Int) < countL shape := by omega
      rw [hkk, List.take_length] at ho
      have hI := Lib.hid ho
      clear ho hkk
      go_wp2_with fail
      go_ret
      exact PInts.mk hI.out (Nat.le_succ _) (by omega) hx
end Go.Proofs.Ytjpngmdfnglabaa
