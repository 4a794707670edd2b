/- Texts of these proofs put together: PureN, PureO, ApA, ApB, ApC, Open, OpenB, DrA, DrB, DrE, DrG, Sac, GoA, DrC, DrD, DrI, RgM, GoB, GoS, DoA, DoB, BoA, Facts. No condition. -/
import Derived.Test.YtgklaobfikbiiaaM3
import Derived.Test.YtgklaobfikbiiaaM4
import Derived.Test.YtgklaobfikbiiaaM1
import Derived.Test.YtgklaobfikbiiaaRows
import Derived.WalkKit
import Derived.ProofKit
import Derived.OpenShut
import Derived.ShutString
import Derived.ChangeOld
import Derived.Below
import Derived.Lib.SmallJoins
import Derived.Test.YtgklaobfikbiiaaM2
import Derived.KernelRfl
import Derived.JoinedOf
set_option linter.unusedVariables false
set_option linter.unusedSimpArgs false
/- Plain laws on buffers: what acts leave valid. No condition. -/
namespace Go.Proofs.Ytgklaobfikbiiaa
open Go.RowKit
set_option linter.unusedVariables false
set_option maxRecDepth 100000

/-- the cells of a slice are cells of the view -/
theorem cut_sub {b : Int} {s t : List Int} {d : Nat} {a e q : Int} (h : viewB b s t = true) (hd : d < s.length) (hq : q ≠ 0) (hL : ∀ i ∈ numL a e q, 0 ≤ i ∧ i < s.getD d 0) :
    ∀ y ∈ offsL (cutB b s t d (numL a e q)) (cutS s d (numL a e q)) (cutT s t d (numL a e q)), y ∈ offsL b s t := by
  obtain ⟨h1, h2, h3, h4, h5⟩ := viewB_in h
  have hs := Small.of h1
  have hlen : 0 ≤ ((numL a e q).length : Int) ∧ ((numL a e q).length : Int) ≤ s.getD d 0 := by
    rcases num_len_le hq hL with h' | h' <;> have := (hs.2 _ (getD_mem hd)) <;> omega
  obtain ⟨n1, n2, n3⟩ := norm_two (a := a) (b := e) hq
  have hsm := small_set hs d (x := ((numL a e q).length : Int)) (by have := (hs.2 _ (getD_mem hd)); omega)
  have hv := (cut_view h hd hq hL).1
  intro y hy
  by_cases hc : countL (s.set d ((numL a e q).length : Int)) = 0
  · have h0 : (offsL (cutB b s t d (numL a e q)) (cutS s d (numL a e q)) (cutT s t d (numL a e q))).length = 0 := by
      have := offs_count (b := cutB b s t d (numL a e q)) (s := cutS s d (numL a e q)) (t := cutT s t d (numL a e q))
      unfold cutS at this ⊢
      rw [hc] at this
      simpa using this
    rw [List.eq_nil_of_length_eq_zero h0] at hy
    cases hy
  · rw [view_C hv] at hy
    unfold cutB cutS cutT tidyB tidyT at hy
    rw [if_neg hc, if_neg hc] at hy
    obtain ⟨k1, k2, k3, k4⟩ := hsm.count
    have hp := k4 (by omega)
    have hn0 : (numL a e q).length ≠ 0 := by
      intro h0
      have := hp ((numL a e q).length : Int) (by rw [List.mem_iff_getElem]; exact ⟨d, by simpa using hd, by simp⟩)
      omega
    rw [n1 hn0] at hy
    have hget : ∀ i : Nat, i < (numL a e q).length → 0 ≤ a + i * q ∧ a + i * q < s.getD d 0 := fun i hi => by
      have := hL ((numL a e q)[i]) (List.getElem_mem hi)
      rwa [numL_get] at this
    rw [view_C h]
    by_cases hle : (numL a e q).length ≤ 1
    · rw [if_pos hle] at hy
      refine cut_mem (L0 := a) (q := 0) (n := (numL a e q).length) h2 hd (fun i hi => ?_) y (by rw [Int.zero_mul]; exact hy)
      have := hget i hi
      obtain rfl : i = 0 := by omega
      omega
    · rw [if_neg hle, n3 (by omega)] at hy
      exact cut_mem (L0 := a) (q := q) (n := (numL a e q).length) h2 hd hget y hy
/-- a slice of a view that fits is a view that fits -/
theorem slice_fit {b : Int} {s t : List Int} {d F T B : Int} {hf ht : Bool} {n : Int} (h : (sliceV b s t d F T B hf ht).2.2.2 = true) (hfit : fitB b s t n = true) :
    viewB (sliceV b s t d F T B hf ht).1 (sliceV b s t d F T B hf ht).2.1 (sliceV b s t d F T B hf ht).2.2.1 = true ∧ fitB (sliceV b s t d F T B hf ht).1 (sliceV b s t d F T B hf ht).2.1 (sliceV b s t d F T B hf ht).2.2.1 n = true := by
  obtain ⟨PB, PS, PT, PO, hP⟩ : ∃ PB PS PT PO, sliceV b s t d F T B hf ht = (PB, PS, PT, PO) := ⟨_, _, _, _, rfl⟩
  rw [hP] at h ⊢
  obtain rfl : PO = true := h
  obtain ⟨D, rfl, hD, hv, hsl, rfl, rfl, rfl⟩ := slice_inv hP
  have hn := (shapeB_in (viewB_in hv).1).2.1 _ (getD_mem (s := s) (d := D) hD)
  have hB := (sliceB_in hsl).2.2.2
  refine ⟨(cut_view hv hD hB (idx_in hn.1 hB)).1, ?_⟩
  unfold fitB at hfit ⊢
  rw [List.all_eq_true] at hfit ⊢
  exact fun x hx => hfit x (cut_sub hv hD hB (idx_in hn.1 hB) x hx)

theorem expB_iff {cells : List Int} {es : List Exp} {i : Nat} : expB cells es i = true ↔ (-1 ≤ (expAt es i).par ∧ (expAt es i).par < i ∧ viewB (expAt es i).b (expAt es i).s (expAt es i).t = true ∧
    ((expAt es i).op = true → fitB (expAt es i).b (expAt es i).s (expAt es i).t cells.length = true ∧ ((expAt es i).par < 0 ∨ (expAt es (expAt es i).par.toNat).op = true))) := by
  unfold expB inB
  cases (expAt es i).op <;> simp
  · constructor
    · rintro ⟨⟨h1, h2⟩, h3⟩; exact ⟨h1, by omega, h3⟩
    · rintro ⟨h1, h2, h3⟩; exact ⟨⟨h1, by omega⟩, h3⟩
  · constructor
    · rintro ⟨⟨⟨h1, h2⟩, h3⟩, h4, h5⟩; exact ⟨h1, by omega, h3, h4, h5⟩
    · rintro ⟨h1, h2, h3, h4, h5⟩; exact ⟨⟨⟨h1, by omega⟩, h3⟩, h4, h5⟩
theorem bufB_iff {cells : List Int} {es : List Exp} : bufB cells es = true ↔ memB cells = true ∧ es.length ≤ 8 ∧ ∀ i, i < es.length → expB cells es i = true := by
  constructor
  · intro h
    obtain ⟨h1, -, h2, h3⟩ := bufB_in h
    exact ⟨h1, h2, h3⟩
  · rintro ⟨h1, h2, h3⟩
    unfold bufB expsB
    rw [h1, decide_eq_true h2, Bool.true_and, Bool.true_and, List.all_eq_true]
    exact fun i hi => h3 i (List.mem_range.1 hi)
theorem memB_iff {xs : List Int} : memB xs = true ↔ xs.length ≤ 60 ∧ ∀ x ∈ xs, 0 ≤ x ∧ x ≤ 255 := by
  unfold memB inB
  simp [List.all_eq_true]
/-- other cells, as many -/
theorem buf_cells {cells c2 : List Int} {es : List Exp} (h : bufB cells es = true) (hl : c2.length = cells.length) (hm : ∀ x ∈ c2, 0 ≤ x ∧ x ≤ 255) : bufB c2 es = true := by
  obtain ⟨h1, h2, h3⟩ := bufB_iff.1 h
  refine bufB_iff.2 ⟨memB_iff.2 ⟨by rw [hl]; exact (memB_iff.1 h1).1, hm⟩, h2, fun i hi => ?_⟩
  have := h3 i hi
  unfold expB at this ⊢
  rw [hl]; exact this
theorem mem_set_of {xs : List Int} {i : Nat} {v : Int} (h : ∀ x ∈ xs, 0 ≤ x ∧ x ≤ 255) (hv : 0 ≤ v ∧ v ≤ 255) : ∀ x ∈ xs.set i v, 0 ≤ x ∧ x ≤ 255 := fun x hx => by
  rcases List.mem_or_eq_of_mem_set hx with h1 | rfl
  · exact h x h1
  · exact hv
theorem fillUp_mem {mem ix : List Int} {v : Int} (h : ∀ x ∈ mem, 0 ≤ x ∧ x ≤ 255) (hv : 0 ≤ v ∧ v ≤ 255) (k : Nat) : ∀ x ∈ fillUp mem ix v k, 0 ≤ x ∧ x ≤ 255 := by
  induction k with
  | zero => exact h
  | succ k ih => rw [fillUp_succ]; exact mem_set_of ih hv
theorem putUp_mem {mem ix vs : List Int} (h : ∀ x ∈ mem, 0 ≤ x ∧ x ≤ 255) (hv : ∀ i, 0 ≤ vs.getD i 0 ∧ vs.getD i 0 ≤ 255) (k : Nat) : ∀ x ∈ putUp mem ix vs k, 0 ≤ x ∧ x ≤ 255 := by
  induction k with
  | zero => exact h
  | succ k ih => rw [putUp_succ]; exact mem_set_of ih (hv k)
theorem getD_in {xs : List Int} (h : ∀ x ∈ xs, 0 ≤ x ∧ x ≤ 255) (i : Nat) : 0 ≤ xs.getD i 0 ∧ xs.getD i 0 ≤ 255 := by
  rcases Nat.lt_or_ge i xs.length with hi | hi
  · exact h _ (getD_mem hi)
  · rw [List.getD_eq_getElem?_getD, List.getElem?_eq_none hi]; decide
theorem filA_valid {cells : List Int} {es : List Exp} {i v : Int} (h : (filA cells es i v).2.2 = true) : bufB (filA cells es i v).1 (filA cells es i v).2.1 = true := by
  unfold filA at h ⊢
  split at h
  · rename_i hc
    rw [if_pos hc]
    simp only [Bool.and_eq_true] at hc
    have hm := (memB_iff.1 (bufB_iff.1 hc.1.1).1).2
    have hb : fillB cells (expAt es i.toNat).b (expAt es i.toNat).s (expAt es i.toNat).t v = true := by unfold fillB; rw [open_holds hc.1.1 hc.1.2, hc.2]; rfl
    refine buf_cells hc.1.1 (fillA_len hb) ?_
    unfold fillA
    rw [if_pos hb]
    refine fillUp_mem hm ?_ _
    have := hc.2
    unfold inB at this
    simpa using this
  · cases h
theorem cpyA_valid {cells : List Int} {es : List Exp} {i j : Int} (h : (cpyA cells es i j).2.2 = true) : bufB (cpyA cells es i j).1 (cpyA cells es i j).2.1 = true := by
  unfold cpyA at h ⊢
  split at h
  · rename_i hc
    rw [if_pos hc]
    rw [Bool.and_eq_true, Bool.and_eq_true] at hc
    have hm := (memB_iff.1 (bufB_iff.1 hc.1.1).1).2
    refine buf_cells hc.1.1 (copyA_len hc.2) ?_
    unfold copyA
    rw [if_pos hc.2]
    unfold putL
    refine putUp_mem hm (fun k => ?_) _
    refine getD_in (fun x hx => ?_) k
    unfold loadL takL at hx
    obtain ⟨q, -, rfl⟩ := List.mem_map.1 hx
    exact getD_in hm _
  · cases h
theorem resA_valid {cells : List Int} {es : List Exp} {n : Int} (h : (resA cells es n).2.2 = true) : bufB (resA cells es n).1 (resA cells es n).2.1 = true := by
  unfold resA at h ⊢
  split at h
  · rename_i hc
    rw [if_pos hc]
    simp only [Bool.and_eq_true, decide_eq_true_eq] at hc
    obtain ⟨h1, h2, h3⟩ := bufB_iff.1 hc.1
    have hin := hc.2.1
    unfold inB at hin
    simp only [Bool.and_eq_true, decide_eq_true_eq] at hin
    refine bufB_iff.2 ⟨memB_iff.2 ⟨by rw [fitL_len]; omega, fun x hx => ?_⟩, h2, fun i hi => ?_⟩
    · unfold fitL at hx
      rcases List.mem_append.1 hx with h' | h'
      · exact (memB_iff.1 h1).2 x (List.mem_of_mem_take h')
      · have := List.eq_of_mem_replicate h'; omega
    · obtain ⟨e1, e2, e3, -⟩ := expB_iff.1 (h3 i hi)
      refine expB_iff.2 ⟨e1, e2, e3, fun ho => ?_⟩
      exfalso
      have : (i : Int) ∈ selL opP es es.length := by
        unfold selL
        exact List.mem_map.2 ⟨i, List.mem_filter.2 ⟨List.mem_range.2 hi, ho⟩, rfl⟩
      rw [List.eq_nil_of_length_eq_zero hc.2.2] at this
      cases this
  · cases h
/-- one export more -/
theorem buf_app {cells : List Int} {es : List Exp} {e : Exp} (h : bufB cells es = true) (hn : es.length < 8) (h1 : -1 ≤ e.par ∧ e.par < es.length) (h2 : viewB e.b e.s e.t = true)
    (h3 : e.op = true → fitB e.b e.s e.t cells.length = true ∧ (e.par < 0 ∨ (expAt es e.par.toNat).op = true)) : bufB cells (es ++ [e]) = true := by
  obtain ⟨g1, g2, g3⟩ := bufB_iff.1 h
  refine bufB_iff.2 ⟨g1, by simp; omega, fun i hi => ?_⟩
  rw [List.length_append, List.length_singleton] at hi
  have hpar : ∀ q : Int, q < es.length → (q < 0 ∨ (expAt es q.toNat).op = true) → (q < 0 ∨ (expAt (es ++ [e]) q.toNat).op = true) := fun q hq hx => by
    rcases hx with hx | hx
    · exact .inl hx
    · rcases Int.lt_or_le q 0 with h0 | h0
      · exact .inl h0
      · right; rw [expAt_app1 (by omega)]; exact hx
  by_cases hl : i < es.length
  · obtain ⟨e1, e2, e3, e4⟩ := expB_iff.1 (g3 i hl)
    refine expB_iff.2 ?_
    rw [expAt_app1 hl]
    exact ⟨e1, e2, e3, fun ho => ⟨(e4 ho).1, hpar _ (by omega) (e4 ho).2⟩⟩
  · obtain rfl : i = es.length := by omega
    refine expB_iff.2 ?_
    rw [expAt_app2]
    exact ⟨h1.1, h1.2, h2, fun ho => ⟨(h3 ho).1, hpar _ h1.2 (h3 ho).2⟩⟩
theorem expA_valid {cells : List Int} {es : List Exp} {b : Int} {s t : List Int} (h : (expA cells es b s t).2.2 = true) : bufB (expA cells es b s t).1 (expA cells es b s t).2.1 = true := by
  unfold expA at h ⊢
  split at h
  · rename_i hc
    rw [if_pos hc]
    simp only [Bool.and_eq_true, decide_eq_true_eq] at hc
    exact buf_app hc.1 hc.2.2.2 ⟨by show (-1 : Int) ≤ -1; omega, by show (-1 : Int) < es.length; omega⟩ hc.2.1 (fun _ => ⟨hc.2.2.1, .inl (by show (-1 : Int) < 0; omega)⟩)
  · cases h
theorem parA_valid {cells : List Int} {es : List Exp} {i d F T B : Int} {hf ht : Bool} (h : (parA cells es i d F T B hf ht).2.2 = true) : bufB (parA cells es i d F T B hf ht).1 (parA cells es i d F T B hf ht).2.1 = true := by
  unfold parA at h ⊢
  split at h
  · rename_i hc
    rw [if_pos hc]
    simp only [Bool.and_eq_true, decide_eq_true_eq] at hc
    obtain ⟨o0, o1, o2⟩ := opB_in hc.1.1.2
    have hfit := expB_fit ((bufB_iff.1 hc.1.1.1).2.2 _ o1) o2
    obtain ⟨v1, v2⟩ := slice_fit hc.2 hfit
    exact buf_app hc.1.1.1 hc.1.2 ⟨by show (-1 : Int) ≤ i; omega, by show i < (es.length : Int); omega⟩ v1 (fun _ => ⟨v2, .inr o2⟩)
  · cases h
theorem relA_valid {cells : List Int} {es : List Exp} {i : Int} (h : (relA cells es i).2.2 = true) : bufB (relA cells es i).1 (relA cells es i).2.1 = true := by
  unfold relA at h ⊢
  split at h
  · rename_i hc
    rw [if_pos hc]
    simp only [Bool.and_eq_true, decide_eq_true_eq] at hc
    obtain ⟨o0, o1, o2⟩ := opB_in hc.1.2
    obtain ⟨g1, g2, g3⟩ := bufB_iff.1 hc.1.1
    refine bufB_iff.2 ⟨g1, by simpa using g2, fun j hj => ?_⟩
    rw [List.length_set] at hj
    obtain ⟨e1, e2, e3, e4⟩ := expB_iff.1 (g3 j hj)
    refine expB_iff.2 ?_
    rw [expAt_set es _ _ j o1]
    by_cases hji : j = i.toNat
    · subst hji
      rw [if_pos rfl]
      exact ⟨e1, e2, e3, fun ho => by cases ho⟩
    · rw [if_neg hji]
      refine ⟨e1, e2, e3, fun ho => ⟨(e4 ho).1, ?_⟩⟩
      rcases (e4 ho).2 with hp | hp
      · exact .inl hp
      · rcases Int.lt_or_le (expAt es j).par 0 with h0 | h0
        · exact .inl h0
        · right
          rw [expAt_set es _ _ _ o1]
          by_cases hq : (expAt es j).par.toNat = i.toNat
          · exfalso
            have : (j : Int) ∈ selL (kidP i) es es.length := by
              unfold selL kidP
              refine List.mem_map.2 ⟨j, List.mem_filter.2 ⟨List.mem_range.2 hj, ?_⟩, rfl⟩
              rw [ho, Bool.true_and]
              exact decide_eq_true (by omega)
            rw [List.eq_nil_of_length_eq_zero hc.2] at this
            cases this
          · rw [if_neg hq]; exact hp
  · cases h
end Go.Proofs.Ytgklaobfikbiiaa

/- Plain laws on buffers: how many exports there are behind an act; what is loaded. No condition. -/
namespace Go.Proofs.Ytgklaobfikbiiaa
open Go.RowKit
set_option linter.unusedVariables false
set_option maxRecDepth 100000

theorem expA_more {cells : List Int} {es : List Exp} {b : Int} {s t : List Int} {C2 : List Int} {E2 : List Exp} (h : expA cells es b s t = (C2, E2, true)) : ∃ m, E2.length = m + 1 ∧ m < 10 := by
  have hv : bufB C2 E2 = true := by have := expA_valid (h := (show (expA cells es b s t).2.2 = true by rw [h])); rw [h] at this; exact this
  have h8 := (bufB_iff.1 hv).2.1
  unfold expA at h
  split at h
  · cases h; exact ⟨es.length, by simp, by simp at h8; omega⟩
  · cases h
theorem parA_more {cells : List Int} {es : List Exp} {i d F T B : Int} {hf ht : Bool} {C2 : List Int} {E2 : List Exp} (h : parA cells es i d F T B hf ht = (C2, E2, true)) : ∃ m, E2.length = m + 1 ∧ m < 10 := by
  have hv : bufB C2 E2 = true := by have := parA_valid (h := (show (parA cells es i d F T B hf ht).2.2 = true by rw [h])); rw [h] at this; exact this
  have h8 := (bufB_iff.1 hv).2.1
  unfold parA at h
  split at h
  · cases h; exact ⟨es.length, by simp, by simp at h8; omega⟩
  · cases h
theorem load_len {mem : List Int} {b : Int} {s t : List Int} (h : holdB mem b s t = true) : (loadL mem b s t).length ≤ 60 := by
  unfold loadL; rw [takL_len]; exact (fill_in h).2.2.2
theorem load_mem {mem : List Int} {b : Int} {s t : List Int} (h : holdB mem b s t = true) : ∀ x ∈ loadL mem b s t, 0 ≤ x ∧ x ≤ 255 := by
  intro x hx
  unfold loadL takL at hx
  obtain ⟨q, -, rfl⟩ := List.mem_map.1 hx
  exact getD_in (memB_iff.1 (hold_in h).1).2 _
end Go.Proofs.Ytgklaobfikbiiaa

/- Walks: acts of the reference, with answers. -/
namespace Go.Proofs.Ytgklaobfikbiiaa
open Go.RowKit
set_option linter.unusedVariables false
set_option maxRecDepth 100000


/-- a call hands back a valid buffer, the old one or one in rows of its own, and a text -/
def PApp (cv ev : Value) (cells : List Int) (es : List Exp) (w : World) (e : Ending) (w' : World) : Prop := ∃ cv2 ev2 C E s, e = .returned (.tuple #[.agg #[cv2, ev2], .string s]) ∧ bufB C E = true ∧ ((∃ R, BufR w' w.heap.size cv2 ev2 C E R) ∨ (cv2 = cv ∧ ev2 = ev ∧ C = cells ∧ E = es)) ∧ Ext w w'

set_option maxHeartbeats 6400000 in
theorem apply_0 (cells : List Int) (es : List Exp) (cv ev : Value) (ns : List Int) (nv : Value) (w : World) (l1 l2 : Nat) (h1 : Ints w l1 cv cells) (h2 : Exps w l2 ev es) (hv : bufB cells es = true) (l3 : Nat) (h3 : Ints w l3 nv ns) (hl : 1 ≤ ns.length) :
  Calls Try.prog 64 #[.agg #[cv, ev], .agg #[.int .i64 0, nv]] w (PApp cv ev cells es w) := by
 obtain ⟨p0, c0, rfl⟩ := h1.form
 obtain ⟨p1, c1, rfl⟩ := h2.form
 have he1 := h2.len
 have hc1 := h1.len
 obtain ⟨pn, cn, rfl⟩ := h3.form
 have hl0 : 0 < ns.length := by omega
 replace hv := Lib.hid hv
 obtain ⟨C2, E2, O2, hX⟩ : ∃ C2 E2 O2, resA cells es (ns.getD 0 0) = (C2, E2, O2) := ⟨_, _, _, rfl⟩
 have hok : O2 = true → bufB C2 E2 = true := fun ho => by have h7 := resA_valid (h := (show (resA cells es (ns.getD 0 0)).2.2 = true by rw [hX]; exact ho)); rw [hX] at h7; exact h7
 replace hok := Lib.hid hok
 replace hX := Lib.hid hX
 cases O2
 ·
  go_enter Try.func64, Try.ntmps64
  go_wp2_with fail
  refine (pbx_eq hX.out (done_0 cells es _ _ ns _ _ _ _ (h1.ext qXt) (h2.ext qXt) _ (h3.ext qXt) (by omega))).mono ?_
  rintro e w1 ⟨cvfb5, evfb5, R6, rfl, bf4, xw1⟩
  have Lw1 : Ext w w1 := Ext.trans qXt xw1
  have Xw1 : Ext w w1 := Lw1
  have b10 : w1.cell? ⟨w.heap.size, 0, none⟩ = some (.slice p0 cells.length c0) := xw1.cell qCl
  have b11 : w1.cell? ⟨w.heap.size, 1, none⟩ = some (.slice p1 es.length c1) := xw1.cell qCl
  have b20 : w1.cell? ⟨w.heap.size + 1, 0, none⟩ = some (.int .i64 0) := xw1.cell qCl
  have b21 : w1.cell? ⟨w.heap.size + 1, 1, none⟩ = some (.slice pn ns.length cn) := xw1.cell qCl
  have b30 : w1.cell? ⟨w.heap.size + 1 + 1, 0, none⟩ = some (.slice none 0 0) := xw1.cell qCl
  have b31 : w1.cell? ⟨w.heap.size + 1 + 1, 1, none⟩ = some (.slice none 0 0) := xw1.cell qCl
  have f_b30 : w1.frozen? ⟨w.heap.size + 1 + 1, 0, none⟩ = false := xw1.frz (by simp <;> omega) qFz
  have f_b31 : w1.frozen? ⟨w.heap.size + 1 + 1, 1, none⟩ = false := xw1.frz (by simp <;> omega) qFz
  have z_b1 : w.heap.size < w1.heap.size := qB b10
  have z_b2 : w.heap.size + 1 < w1.heap.size := qB b20
  have z_b3 : w.heap.size + 1 + 1 < w1.heap.size := qB b30
  have s_w1 : w.heap.size ≤ w1.heap.size := Xw1.size
  clear xw1
  replace bf4 := bf4.lower (lo' := w.heap.size + 1 + 1 + 1) qSo
  obtain ⟨afb5, cfb5, rfl⟩ := bf4.ints.form
  obtain ⟨efb5, dfb5, rfl⟩ := bf4.exps.form
  have q_bf4 := Lib.hid bf4.at
  go_upto_region 2 with fail
  generalize hW1 : w1.alloc (.cells #[.slice afb5 C2.length cfb5, .slice efb5 E2.length dfb5] 26) = w2 at *
  have Lw2 : Ext w1 w2 := by subst hW1; exact qXt
  have Xw2 : Ext w w2 := Xw1.trans Lw2
  replace b10 := Lw2.cell b10
  replace b11 := Lw2.cell b11
  replace b20 := Lw2.cell b20
  replace b21 := Lw2.cell b21
  replace b30 := Lw2.cell b30
  replace b31 := Lw2.cell b31
  replace f_b30 := Lw2.frz z_b3 f_b30
  replace f_b31 := Lw2.frz z_b3 f_b31
  have b70 : w2.cell? ⟨w1.heap.size, 0, none⟩ = some (.slice afb5 C2.length cfb5) := by subst hW1; exact qCl
  have b71 : w2.cell? ⟨w1.heap.size, 1, none⟩ = some (.slice efb5 E2.length dfb5) := by subst hW1; exact qCl
  have z_b1 : w.heap.size < w2.heap.size := qB b10
  have z_b2 : w.heap.size + 1 < w2.heap.size := qB b20
  have z_b3 : w.heap.size + 1 + 1 < w2.heap.size := qB b30
  have z_b7 : w1.heap.size < w2.heap.size := qB b70
  replace bf4 := bf4.ext Lw2
  have s_w2 : w.heap.size ≤ w2.heap.size := Xw2.size
  clear hW1
  go_wp2_with fail
  generalize hW2 : ((w2.setCell ⟨w.heap.size + 1 + 1, 0, none⟩ (.slice p0 cells.length c0)).setCell ⟨w.heap.size + 1 + 1, 1, none⟩ (.slice p1 es.length c1)) = w3 at *
  have Kw3 : Chg (w.heap.size + 1 + 1) (w.heap.size + 1 + 1 + 1) w2 w3 := by subst hW2; exact qCh
  have Xw3 : Ext w w3 := by subst hW2; exact qXt
  replace b10 := Kw3.cell (by omega) b10
  replace b11 := Kw3.cell (by omega) b11
  replace b20 := Kw3.cell (by omega) b20
  replace b21 := Kw3.cell (by omega) b21
  replace b30 : w3.cell? ⟨w.heap.size + 1 + 1, 0, none⟩ = some (.slice p0 cells.length c0) := by subst hW2; go_simp
  replace f_b30 : w3.frozen? ⟨w.heap.size + 1 + 1, 0, none⟩ = false := by subst hW2; first | (simp only [World.frozen?_setCell]; with_reducible assumption) | go_simp
  replace b31 : w3.cell? ⟨w.heap.size + 1 + 1, 1, none⟩ = some (.slice p1 es.length c1) := by subst hW2; go_simp
  replace f_b31 : w3.frozen? ⟨w.heap.size + 1 + 1, 1, none⟩ = false := by subst hW2; first | (simp only [World.frozen?_setCell]; with_reducible assumption) | go_simp
  replace b70 := Kw3.cell (by omega) b70
  replace b71 := Kw3.cell (by omega) b71
  replace bf4 := bf4.chg Kw3 (by omega)
  clear Kw3
  have z_b1 : w.heap.size < w3.heap.size := qB b10
  have z_b2 : w.heap.size + 1 < w3.heap.size := qB b20
  have z_b3 : w.heap.size + 1 + 1 < w3.heap.size := qB b30
  have z_b7 : w1.heap.size < w3.heap.size := qB b70
  have s_w3 : w.heap.size ≤ w3.heap.size := Xw3.size
  clear hW2
  refine bodyPost_ret (v := .tuple #[.agg #[.slice p0 cells.length c0, .slice p1 es.length c1], Value.string { data := #[110, 111] }]) (by simp only [results, Try.results64]; go_simp) rfl ?_
  exact ⟨_, _, cells, es, _, rfl, hv.out, .inr ⟨rfl, rfl, rfl, rfl⟩, (Xw3.trans qXt)⟩
 ·
  go_enter Try.func64, Try.ntmps64
  go_wp2_with fail
  refine (pbx_eq hX.out (done_0 cells es _ _ ns _ _ _ _ (h1.ext qXt) (h2.ext qXt) _ (h3.ext qXt) (by omega))).mono ?_
  rintro e w1 ⟨cvfb5, evfb5, R6, rfl, bf4, xw1⟩
  have Lw1 : Ext w w1 := Ext.trans qXt xw1
  have Xw1 : Ext w w1 := Lw1
  have b10 : w1.cell? ⟨w.heap.size, 0, none⟩ = some (.slice p0 cells.length c0) := xw1.cell qCl
  have b11 : w1.cell? ⟨w.heap.size, 1, none⟩ = some (.slice p1 es.length c1) := xw1.cell qCl
  have b20 : w1.cell? ⟨w.heap.size + 1, 0, none⟩ = some (.int .i64 0) := xw1.cell qCl
  have b21 : w1.cell? ⟨w.heap.size + 1, 1, none⟩ = some (.slice pn ns.length cn) := xw1.cell qCl
  have b30 : w1.cell? ⟨w.heap.size + 1 + 1, 0, none⟩ = some (.slice none 0 0) := xw1.cell qCl
  have b31 : w1.cell? ⟨w.heap.size + 1 + 1, 1, none⟩ = some (.slice none 0 0) := xw1.cell qCl
  have f_b30 : w1.frozen? ⟨w.heap.size + 1 + 1, 0, none⟩ = false := xw1.frz (by simp <;> omega) qFz
  have f_b31 : w1.frozen? ⟨w.heap.size + 1 + 1, 1, none⟩ = false := xw1.frz (by simp <;> omega) qFz
  have z_b1 : w.heap.size < w1.heap.size := qB b10
  have z_b2 : w.heap.size + 1 < w1.heap.size := qB b20
  have z_b3 : w.heap.size + 1 + 1 < w1.heap.size := qB b30
  have s_w1 : w.heap.size ≤ w1.heap.size := Xw1.size
  clear xw1
  replace bf4 := bf4.lower (lo' := w.heap.size + 1 + 1 + 1) qSo
  obtain ⟨afb5, cfb5, rfl⟩ := bf4.ints.form
  obtain ⟨efb5, dfb5, rfl⟩ := bf4.exps.form
  have q_bf4 := Lib.hid bf4.at
  go_upto_region 2 with fail
  generalize hW3 : w1.alloc (.cells #[.slice afb5 C2.length cfb5, .slice efb5 E2.length dfb5] 26) = w2 at *
  have Lw2 : Ext w1 w2 := by subst hW3; exact qXt
  have Xw2 : Ext w w2 := Xw1.trans Lw2
  replace b10 := Lw2.cell b10
  replace b11 := Lw2.cell b11
  replace b20 := Lw2.cell b20
  replace b21 := Lw2.cell b21
  replace b30 := Lw2.cell b30
  replace b31 := Lw2.cell b31
  replace f_b30 := Lw2.frz z_b3 f_b30
  replace f_b31 := Lw2.frz z_b3 f_b31
  have b70 : w2.cell? ⟨w1.heap.size, 0, none⟩ = some (.slice afb5 C2.length cfb5) := by subst hW3; exact qCl
  have b71 : w2.cell? ⟨w1.heap.size, 1, none⟩ = some (.slice efb5 E2.length dfb5) := by subst hW3; exact qCl
  have z_b1 : w.heap.size < w2.heap.size := qB b10
  have z_b2 : w.heap.size + 1 < w2.heap.size := qB b20
  have z_b3 : w.heap.size + 1 + 1 < w2.heap.size := qB b30
  have z_b7 : w1.heap.size < w2.heap.size := qB b70
  replace bf4 := bf4.ext Lw2
  have s_w2 : w.heap.size ≤ w2.heap.size := Xw2.size
  clear hW3
  go_wp2_with fail
  generalize hW4 : ((w2.setCell ⟨w.heap.size + 1 + 1, 0, none⟩ (.slice afb5 C2.length cfb5)).setCell ⟨w.heap.size + 1 + 1, 1, none⟩ (.slice efb5 E2.length dfb5)) = w3 at *
  have Kw3 : Chg (w.heap.size + 1 + 1) (w.heap.size + 1 + 1 + 1) w2 w3 := by subst hW4; exact qCh
  have Xw3 : Ext w w3 := by subst hW4; exact qXt
  replace b10 := Kw3.cell (by omega) b10
  replace b11 := Kw3.cell (by omega) b11
  replace b20 := Kw3.cell (by omega) b20
  replace b21 := Kw3.cell (by omega) b21
  replace b30 : w3.cell? ⟨w.heap.size + 1 + 1, 0, none⟩ = some (.slice afb5 C2.length cfb5) := by subst hW4; go_simp
  replace f_b30 : w3.frozen? ⟨w.heap.size + 1 + 1, 0, none⟩ = false := by subst hW4; first | (simp only [World.frozen?_setCell]; with_reducible assumption) | go_simp
  replace b31 : w3.cell? ⟨w.heap.size + 1 + 1, 1, none⟩ = some (.slice efb5 E2.length dfb5) := by subst hW4; go_simp
  replace f_b31 : w3.frozen? ⟨w.heap.size + 1 + 1, 1, none⟩ = false := by subst hW4; first | (simp only [World.frozen?_setCell]; with_reducible assumption) | go_simp
  replace b70 := Kw3.cell (by omega) b70
  replace b71 := Kw3.cell (by omega) b71
  replace bf4 := bf4.chg Kw3 (by omega)
  clear Kw3
  have z_b1 : w.heap.size < w3.heap.size := qB b10
  have z_b2 : w.heap.size + 1 < w3.heap.size := qB b20
  have z_b3 : w.heap.size + 1 + 1 < w3.heap.size := qB b30
  have z_b7 : w1.heap.size < w3.heap.size := qB b70
  have s_w3 : w.heap.size ≤ w3.heap.size := Xw3.size
  clear hW4
  refine bodyPost_ret (v := .tuple #[.agg #[.slice afb5 C2.length cfb5, .slice efb5 E2.length dfb5], Value.string { data := #[111, 107] }]) (by simp only [results, Try.results64]; go_simp) rfl ?_
  exact ⟨_, _, C2, E2, _, rfl, (hok.out (by trivial)), .inl ⟨_, (bf4.ext qXt).lower (by omega)⟩, (Xw3.trans qXt)⟩

set_option maxHeartbeats 6400000 in
theorem apply_4 (cells : List Int) (es : List Exp) (cv ev : Value) (ns : List Int) (nv : Value) (w : World) (l1 l2 : Nat) (h1 : Ints w l1 cv cells) (h2 : Exps w l2 ev es) (hv : bufB cells es = true) (l3 : Nat) (h3 : Ints w l3 nv ns) (hl : 2 ≤ ns.length) :
  Calls Try.prog 64 #[.agg #[cv, ev], .agg #[.int .i64 4, nv]] w (PApp cv ev cells es w) := by
 obtain ⟨p0, c0, rfl⟩ := h1.form
 obtain ⟨p1, c1, rfl⟩ := h2.form
 have he1 := h2.len
 have hc1 := h1.len
 obtain ⟨pn, cn, rfl⟩ := h3.form
 have hl0 : 0 < ns.length := by omega
 have hl1 : 1 < ns.length := by omega
 replace hv := Lib.hid hv
 obtain ⟨C2, E2, O2, hX⟩ : ∃ C2 E2 O2, filA cells es (ns.getD 0 0) (ns.getD 1 0) = (C2, E2, O2) := ⟨_, _, _, rfl⟩
 have hok : O2 = true → bufB C2 E2 = true := fun ho => by have h7 := filA_valid (h := (show (filA cells es (ns.getD 0 0) (ns.getD 1 0)).2.2 = true by rw [hX]; exact ho)); rw [hX] at h7; exact h7
 replace hok := Lib.hid hok
 replace hX := Lib.hid hX
 cases O2
 ·
  go_enter Try.func64, Try.ntmps64
  go_wp2_with fail
  refine (pbx_eq hX.out (done_4 cells es _ _ ns _ _ _ _ (h1.ext qXt) (h2.ext qXt) _ (h3.ext qXt) (by omega))).mono ?_
  rintro e w1 ⟨cvfb5, evfb5, R6, rfl, bf4, xw1⟩
  have Lw1 : Ext w w1 := Ext.trans qXt xw1
  have Xw1 : Ext w w1 := Lw1
  have b10 : w1.cell? ⟨w.heap.size, 0, none⟩ = some (.slice p0 cells.length c0) := xw1.cell qCl
  have b11 : w1.cell? ⟨w.heap.size, 1, none⟩ = some (.slice p1 es.length c1) := xw1.cell qCl
  have b20 : w1.cell? ⟨w.heap.size + 1, 0, none⟩ = some (.int .i64 4) := xw1.cell qCl
  have b21 : w1.cell? ⟨w.heap.size + 1, 1, none⟩ = some (.slice pn ns.length cn) := xw1.cell qCl
  have b30 : w1.cell? ⟨w.heap.size + 1 + 1, 0, none⟩ = some (.slice none 0 0) := xw1.cell qCl
  have b31 : w1.cell? ⟨w.heap.size + 1 + 1, 1, none⟩ = some (.slice none 0 0) := xw1.cell qCl
  have f_b30 : w1.frozen? ⟨w.heap.size + 1 + 1, 0, none⟩ = false := xw1.frz (by simp <;> omega) qFz
  have f_b31 : w1.frozen? ⟨w.heap.size + 1 + 1, 1, none⟩ = false := xw1.frz (by simp <;> omega) qFz
  have z_b1 : w.heap.size < w1.heap.size := qB b10
  have z_b2 : w.heap.size + 1 < w1.heap.size := qB b20
  have z_b3 : w.heap.size + 1 + 1 < w1.heap.size := qB b30
  have s_w1 : w.heap.size ≤ w1.heap.size := Xw1.size
  clear xw1
  replace bf4 := bf4.lower (lo' := w.heap.size + 1 + 1 + 1) qSo
  obtain ⟨afb5, cfb5, rfl⟩ := bf4.ints.form
  obtain ⟨efb5, dfb5, rfl⟩ := bf4.exps.form
  have q_bf4 := Lib.hid bf4.at
  go_upto_region 2 with fail
  generalize hW5 : w1.alloc (.cells #[.slice afb5 C2.length cfb5, .slice efb5 E2.length dfb5] 26) = w2 at *
  have Lw2 : Ext w1 w2 := by subst hW5; exact qXt
  have Xw2 : Ext w w2 := Xw1.trans Lw2
  replace b10 := Lw2.cell b10
  replace b11 := Lw2.cell b11
  replace b20 := Lw2.cell b20
  replace b21 := Lw2.cell b21
  replace b30 := Lw2.cell b30
  replace b31 := Lw2.cell b31
  replace f_b30 := Lw2.frz z_b3 f_b30
  replace f_b31 := Lw2.frz z_b3 f_b31
  have b70 : w2.cell? ⟨w1.heap.size, 0, none⟩ = some (.slice afb5 C2.length cfb5) := by subst hW5; exact qCl
  have b71 : w2.cell? ⟨w1.heap.size, 1, none⟩ = some (.slice efb5 E2.length dfb5) := by subst hW5; exact qCl
  have z_b1 : w.heap.size < w2.heap.size := qB b10
  have z_b2 : w.heap.size + 1 < w2.heap.size := qB b20
  have z_b3 : w.heap.size + 1 + 1 < w2.heap.size := qB b30
  have z_b7 : w1.heap.size < w2.heap.size := qB b70
  replace bf4 := bf4.ext Lw2
  have s_w2 : w.heap.size ≤ w2.heap.size := Xw2.size
  clear hW5
  go_wp2_with fail
  generalize hW6 : ((w2.setCell ⟨w.heap.size + 1 + 1, 0, none⟩ (.slice p0 cells.length c0)).setCell ⟨w.heap.size + 1 + 1, 1, none⟩ (.slice p1 es.length c1)) = w3 at *
  have Kw3 : Chg (w.heap.size + 1 + 1) (w.heap.size + 1 + 1 + 1) w2 w3 := by subst hW6; exact qCh
  have Xw3 : Ext w w3 := by subst hW6; exact qXt
  replace b10 := Kw3.cell (by omega) b10
  replace b11 := Kw3.cell (by omega) b11
  replace b20 := Kw3.cell (by omega) b20
  replace b21 := Kw3.cell (by omega) b21
  replace b30 : w3.cell? ⟨w.heap.size + 1 + 1, 0, none⟩ = some (.slice p0 cells.length c0) := by subst hW6; go_simp
  replace f_b30 : w3.frozen? ⟨w.heap.size + 1 + 1, 0, none⟩ = false := by subst hW6; first | (simp only [World.frozen?_setCell]; with_reducible assumption) | go_simp
  replace b31 : w3.cell? ⟨w.heap.size + 1 + 1, 1, none⟩ = some (.slice p1 es.length c1) := by subst hW6; go_simp
  replace f_b31 : w3.frozen? ⟨w.heap.size + 1 + 1, 1, none⟩ = false := by subst hW6; first | (simp only [World.frozen?_setCell]; with_reducible assumption) | go_simp
  replace b70 := Kw3.cell (by omega) b70
  replace b71 := Kw3.cell (by omega) b71
  replace bf4 := bf4.chg Kw3 (by omega)
  clear Kw3
  have z_b1 : w.heap.size < w3.heap.size := qB b10
  have z_b2 : w.heap.size + 1 < w3.heap.size := qB b20
  have z_b3 : w.heap.size + 1 + 1 < w3.heap.size := qB b30
  have z_b7 : w1.heap.size < w3.heap.size := qB b70
  have s_w3 : w.heap.size ≤ w3.heap.size := Xw3.size
  clear hW6
  refine bodyPost_ret (v := .tuple #[.agg #[.slice p0 cells.length c0, .slice p1 es.length c1], Value.string { data := #[110, 111] }]) (by simp only [results, Try.results64]; go_simp) rfl ?_
  exact ⟨_, _, cells, es, _, rfl, hv.out, .inr ⟨rfl, rfl, rfl, rfl⟩, (Xw3.trans qXt)⟩
 ·
  go_enter Try.func64, Try.ntmps64
  go_wp2_with fail
  refine (pbx_eq hX.out (done_4 cells es _ _ ns _ _ _ _ (h1.ext qXt) (h2.ext qXt) _ (h3.ext qXt) (by omega))).mono ?_
  rintro e w1 ⟨cvfb5, evfb5, R6, rfl, bf4, xw1⟩
  have Lw1 : Ext w w1 := Ext.trans qXt xw1
  have Xw1 : Ext w w1 := Lw1
  have b10 : w1.cell? ⟨w.heap.size, 0, none⟩ = some (.slice p0 cells.length c0) := xw1.cell qCl
  have b11 : w1.cell? ⟨w.heap.size, 1, none⟩ = some (.slice p1 es.length c1) := xw1.cell qCl
  have b20 : w1.cell? ⟨w.heap.size + 1, 0, none⟩ = some (.int .i64 4) := xw1.cell qCl
  have b21 : w1.cell? ⟨w.heap.size + 1, 1, none⟩ = some (.slice pn ns.length cn) := xw1.cell qCl
  have b30 : w1.cell? ⟨w.heap.size + 1 + 1, 0, none⟩ = some (.slice none 0 0) := xw1.cell qCl
  have b31 : w1.cell? ⟨w.heap.size + 1 + 1, 1, none⟩ = some (.slice none 0 0) := xw1.cell qCl
  have f_b30 : w1.frozen? ⟨w.heap.size + 1 + 1, 0, none⟩ = false := xw1.frz (by simp <;> omega) qFz
  have f_b31 : w1.frozen? ⟨w.heap.size + 1 + 1, 1, none⟩ = false := xw1.frz (by simp <;> omega) qFz
  have z_b1 : w.heap.size < w1.heap.size := qB b10
  have z_b2 : w.heap.size + 1 < w1.heap.size := qB b20
  have z_b3 : w.heap.size + 1 + 1 < w1.heap.size := qB b30
  have s_w1 : w.heap.size ≤ w1.heap.size := Xw1.size
  clear xw1
  replace bf4 := bf4.lower (lo' := w.heap.size + 1 + 1 + 1) qSo
  obtain ⟨afb5, cfb5, rfl⟩ := bf4.ints.form
  obtain ⟨efb5, dfb5, rfl⟩ := bf4.exps.form
  have q_bf4 := Lib.hid bf4.at
  go_upto_region 2 with fail
  generalize hW7 : w1.alloc (.cells #[.slice afb5 C2.length cfb5, .slice efb5 E2.length dfb5] 26) = w2 at *
  have Lw2 : Ext w1 w2 := by subst hW7; exact qXt
  have Xw2 : Ext w w2 := Xw1.trans Lw2
  replace b10 := Lw2.cell b10
  replace b11 := Lw2.cell b11
  replace b20 := Lw2.cell b20
  replace b21 := Lw2.cell b21
  replace b30 := Lw2.cell b30
  replace b31 := Lw2.cell b31
  replace f_b30 := Lw2.frz z_b3 f_b30
  replace f_b31 := Lw2.frz z_b3 f_b31
  have b70 : w2.cell? ⟨w1.heap.size, 0, none⟩ = some (.slice afb5 C2.length cfb5) := by subst hW7; exact qCl
  have b71 : w2.cell? ⟨w1.heap.size, 1, none⟩ = some (.slice efb5 E2.length dfb5) := by subst hW7; exact qCl
  have z_b1 : w.heap.size < w2.heap.size := qB b10
  have z_b2 : w.heap.size + 1 < w2.heap.size := qB b20
  have z_b3 : w.heap.size + 1 + 1 < w2.heap.size := qB b30
  have z_b7 : w1.heap.size < w2.heap.size := qB b70
  replace bf4 := bf4.ext Lw2
  have s_w2 : w.heap.size ≤ w2.heap.size := Xw2.size
  clear hW7
  go_wp2_with fail
  generalize hW8 : ((w2.setCell ⟨w.heap.size + 1 + 1, 0, none⟩ (.slice afb5 C2.length cfb5)).setCell ⟨w.heap.size + 1 + 1, 1, none⟩ (.slice efb5 E2.length dfb5)) = w3 at *
  have Kw3 : Chg (w.heap.size + 1 + 1) (w.heap.size + 1 + 1 + 1) w2 w3 := by subst hW8; exact qCh
  have Xw3 : Ext w w3 := by subst hW8; exact qXt
  replace b10 := Kw3.cell (by omega) b10
  replace b11 := Kw3.cell (by omega) b11
  replace b20 := Kw3.cell (by omega) b20
  replace b21 := Kw3.cell (by omega) b21
  replace b30 : w3.cell? ⟨w.heap.size + 1 + 1, 0, none⟩ = some (.slice afb5 C2.length cfb5) := by subst hW8; go_simp
  replace f_b30 : w3.frozen? ⟨w.heap.size + 1 + 1, 0, none⟩ = false := by subst hW8; first | (simp only [World.frozen?_setCell]; with_reducible assumption) | go_simp
  replace b31 : w3.cell? ⟨w.heap.size + 1 + 1, 1, none⟩ = some (.slice efb5 E2.length dfb5) := by subst hW8; go_simp
  replace f_b31 : w3.frozen? ⟨w.heap.size + 1 + 1, 1, none⟩ = false := by subst hW8; first | (simp only [World.frozen?_setCell]; with_reducible assumption) | go_simp
  replace b70 := Kw3.cell (by omega) b70
  replace b71 := Kw3.cell (by omega) b71
  replace bf4 := bf4.chg Kw3 (by omega)
  clear Kw3
  have z_b1 : w.heap.size < w3.heap.size := qB b10
  have z_b2 : w.heap.size + 1 < w3.heap.size := qB b20
  have z_b3 : w.heap.size + 1 + 1 < w3.heap.size := qB b30
  have z_b7 : w1.heap.size < w3.heap.size := qB b70
  have s_w3 : w.heap.size ≤ w3.heap.size := Xw3.size
  clear hW8
  refine bodyPost_ret (v := .tuple #[.agg #[.slice afb5 C2.length cfb5, .slice efb5 E2.length dfb5], Value.string { data := #[111, 107] }]) (by simp only [results, Try.results64]; go_simp) rfl ?_
  exact ⟨_, _, C2, E2, _, rfl, (hok.out (by trivial)), .inl ⟨_, (bf4.ext qXt).lower (by omega)⟩, (Xw3.trans qXt)⟩

set_option maxHeartbeats 6400000 in
theorem apply_5 (cells : List Int) (es : List Exp) (cv ev : Value) (ns : List Int) (nv : Value) (w : World) (l1 l2 : Nat) (h1 : Ints w l1 cv cells) (h2 : Exps w l2 ev es) (hv : bufB cells es = true) (l3 : Nat) (h3 : Ints w l3 nv ns) (hl : 2 ≤ ns.length) :
  Calls Try.prog 64 #[.agg #[cv, ev], .agg #[.int .i64 5, nv]] w (PApp cv ev cells es w) := by
 obtain ⟨p0, c0, rfl⟩ := h1.form
 obtain ⟨p1, c1, rfl⟩ := h2.form
 have he1 := h2.len
 have hc1 := h1.len
 obtain ⟨pn, cn, rfl⟩ := h3.form
 have hl0 : 0 < ns.length := by omega
 have hl1 : 1 < ns.length := by omega
 replace hv := Lib.hid hv
 obtain ⟨C2, E2, O2, hX⟩ : ∃ C2 E2 O2, cpyA cells es (ns.getD 0 0) (ns.getD 1 0) = (C2, E2, O2) := ⟨_, _, _, rfl⟩
 have hok : O2 = true → bufB C2 E2 = true := fun ho => by have h7 := cpyA_valid (h := (show (cpyA cells es (ns.getD 0 0) (ns.getD 1 0)).2.2 = true by rw [hX]; exact ho)); rw [hX] at h7; exact h7
 replace hok := Lib.hid hok
 replace hX := Lib.hid hX
 cases O2
 ·
  go_enter Try.func64, Try.ntmps64
  go_wp2_with fail
  refine (pbx_eq hX.out (done_5 cells es _ _ ns _ _ _ _ (h1.ext qXt) (h2.ext qXt) _ (h3.ext qXt) (by omega))).mono ?_
  rintro e w1 ⟨cvfb5, evfb5, R6, rfl, bf4, xw1⟩
  have Lw1 : Ext w w1 := Ext.trans qXt xw1
  have Xw1 : Ext w w1 := Lw1
  have b10 : w1.cell? ⟨w.heap.size, 0, none⟩ = some (.slice p0 cells.length c0) := xw1.cell qCl
  have b11 : w1.cell? ⟨w.heap.size, 1, none⟩ = some (.slice p1 es.length c1) := xw1.cell qCl
  have b20 : w1.cell? ⟨w.heap.size + 1, 0, none⟩ = some (.int .i64 5) := xw1.cell qCl
  have b21 : w1.cell? ⟨w.heap.size + 1, 1, none⟩ = some (.slice pn ns.length cn) := xw1.cell qCl
  have b30 : w1.cell? ⟨w.heap.size + 1 + 1, 0, none⟩ = some (.slice none 0 0) := xw1.cell qCl
  have b31 : w1.cell? ⟨w.heap.size + 1 + 1, 1, none⟩ = some (.slice none 0 0) := xw1.cell qCl
  have f_b30 : w1.frozen? ⟨w.heap.size + 1 + 1, 0, none⟩ = false := xw1.frz (by simp <;> omega) qFz
  have f_b31 : w1.frozen? ⟨w.heap.size + 1 + 1, 1, none⟩ = false := xw1.frz (by simp <;> omega) qFz
  have z_b1 : w.heap.size < w1.heap.size := qB b10
  have z_b2 : w.heap.size + 1 < w1.heap.size := qB b20
  have z_b3 : w.heap.size + 1 + 1 < w1.heap.size := qB b30
  have s_w1 : w.heap.size ≤ w1.heap.size := Xw1.size
  clear xw1
  replace bf4 := bf4.lower (lo' := w.heap.size + 1 + 1 + 1) qSo
  obtain ⟨afb5, cfb5, rfl⟩ := bf4.ints.form
  obtain ⟨efb5, dfb5, rfl⟩ := bf4.exps.form
  have q_bf4 := Lib.hid bf4.at
  go_upto_region 2 with fail
  generalize hW9 : w1.alloc (.cells #[.slice afb5 C2.length cfb5, .slice efb5 E2.length dfb5] 26) = w2 at *
  have Lw2 : Ext w1 w2 := by subst hW9; exact qXt
  have Xw2 : Ext w w2 := Xw1.trans Lw2
  replace b10 := Lw2.cell b10
  replace b11 := Lw2.cell b11
  replace b20 := Lw2.cell b20
  replace b21 := Lw2.cell b21
  replace b30 := Lw2.cell b30
  replace b31 := Lw2.cell b31
  replace f_b30 := Lw2.frz z_b3 f_b30
  replace f_b31 := Lw2.frz z_b3 f_b31
  have b70 : w2.cell? ⟨w1.heap.size, 0, none⟩ = some (.slice afb5 C2.length cfb5) := by subst hW9; exact qCl
  have b71 : w2.cell? ⟨w1.heap.size, 1, none⟩ = some (.slice efb5 E2.length dfb5) := by subst hW9; exact qCl
  have z_b1 : w.heap.size < w2.heap.size := qB b10
  have z_b2 : w.heap.size + 1 < w2.heap.size := qB b20
  have z_b3 : w.heap.size + 1 + 1 < w2.heap.size := qB b30
  have z_b7 : w1.heap.size < w2.heap.size := qB b70
  replace bf4 := bf4.ext Lw2
  have s_w2 : w.heap.size ≤ w2.heap.size := Xw2.size
  clear hW9
  go_wp2_with fail
  generalize hW10 : ((w2.setCell ⟨w.heap.size + 1 + 1, 0, none⟩ (.slice p0 cells.length c0)).setCell ⟨w.heap.size + 1 + 1, 1, none⟩ (.slice p1 es.length c1)) = w3 at *
  have Kw3 : Chg (w.heap.size + 1 + 1) (w.heap.size + 1 + 1 + 1) w2 w3 := by subst hW10; exact qCh
  have Xw3 : Ext w w3 := by subst hW10; exact qXt
  replace b10 := Kw3.cell (by omega) b10
  replace b11 := Kw3.cell (by omega) b11
  replace b20 := Kw3.cell (by omega) b20
  replace b21 := Kw3.cell (by omega) b21
  replace b30 : w3.cell? ⟨w.heap.size + 1 + 1, 0, none⟩ = some (.slice p0 cells.length c0) := by subst hW10; go_simp
  replace f_b30 : w3.frozen? ⟨w.heap.size + 1 + 1, 0, none⟩ = false := by subst hW10; first | (simp only [World.frozen?_setCell]; with_reducible assumption) | go_simp
  replace b31 : w3.cell? ⟨w.heap.size + 1 + 1, 1, none⟩ = some (.slice p1 es.length c1) := by subst hW10; go_simp
  replace f_b31 : w3.frozen? ⟨w.heap.size + 1 + 1, 1, none⟩ = false := by subst hW10; first | (simp only [World.frozen?_setCell]; with_reducible assumption) | go_simp
  replace b70 := Kw3.cell (by omega) b70
  replace b71 := Kw3.cell (by omega) b71
  replace bf4 := bf4.chg Kw3 (by omega)
  clear Kw3
  have z_b1 : w.heap.size < w3.heap.size := qB b10
  have z_b2 : w.heap.size + 1 < w3.heap.size := qB b20
  have z_b3 : w.heap.size + 1 + 1 < w3.heap.size := qB b30
  have z_b7 : w1.heap.size < w3.heap.size := qB b70
  have s_w3 : w.heap.size ≤ w3.heap.size := Xw3.size
  clear hW10
  refine bodyPost_ret (v := .tuple #[.agg #[.slice p0 cells.length c0, .slice p1 es.length c1], Value.string { data := #[110, 111] }]) (by simp only [results, Try.results64]; go_simp) rfl ?_
  exact ⟨_, _, cells, es, _, rfl, hv.out, .inr ⟨rfl, rfl, rfl, rfl⟩, (Xw3.trans qXt)⟩
 ·
  go_enter Try.func64, Try.ntmps64
  go_wp2_with fail
  refine (pbx_eq hX.out (done_5 cells es _ _ ns _ _ _ _ (h1.ext qXt) (h2.ext qXt) _ (h3.ext qXt) (by omega))).mono ?_
  rintro e w1 ⟨cvfb5, evfb5, R6, rfl, bf4, xw1⟩
  have Lw1 : Ext w w1 := Ext.trans qXt xw1
  have Xw1 : Ext w w1 := Lw1
  have b10 : w1.cell? ⟨w.heap.size, 0, none⟩ = some (.slice p0 cells.length c0) := xw1.cell qCl
  have b11 : w1.cell? ⟨w.heap.size, 1, none⟩ = some (.slice p1 es.length c1) := xw1.cell qCl
  have b20 : w1.cell? ⟨w.heap.size + 1, 0, none⟩ = some (.int .i64 5) := xw1.cell qCl
  have b21 : w1.cell? ⟨w.heap.size + 1, 1, none⟩ = some (.slice pn ns.length cn) := xw1.cell qCl
  have b30 : w1.cell? ⟨w.heap.size + 1 + 1, 0, none⟩ = some (.slice none 0 0) := xw1.cell qCl
  have b31 : w1.cell? ⟨w.heap.size + 1 + 1, 1, none⟩ = some (.slice none 0 0) := xw1.cell qCl
  have f_b30 : w1.frozen? ⟨w.heap.size + 1 + 1, 0, none⟩ = false := xw1.frz (by simp <;> omega) qFz
  have f_b31 : w1.frozen? ⟨w.heap.size + 1 + 1, 1, none⟩ = false := xw1.frz (by simp <;> omega) qFz
  have z_b1 : w.heap.size < w1.heap.size := qB b10
  have z_b2 : w.heap.size + 1 < w1.heap.size := qB b20
  have z_b3 : w.heap.size + 1 + 1 < w1.heap.size := qB b30
  have s_w1 : w.heap.size ≤ w1.heap.size := Xw1.size
  clear xw1
  replace bf4 := bf4.lower (lo' := w.heap.size + 1 + 1 + 1) qSo
  obtain ⟨afb5, cfb5, rfl⟩ := bf4.ints.form
  obtain ⟨efb5, dfb5, rfl⟩ := bf4.exps.form
  have q_bf4 := Lib.hid bf4.at
  go_upto_region 2 with fail
  generalize hW11 : w1.alloc (.cells #[.slice afb5 C2.length cfb5, .slice efb5 E2.length dfb5] 26) = w2 at *
  have Lw2 : Ext w1 w2 := by subst hW11; exact qXt
  have Xw2 : Ext w w2 := Xw1.trans Lw2
  replace b10 := Lw2.cell b10
  replace b11 := Lw2.cell b11
  replace b20 := Lw2.cell b20
  replace b21 := Lw2.cell b21
  replace b30 := Lw2.cell b30
  replace b31 := Lw2.cell b31
  replace f_b30 := Lw2.frz z_b3 f_b30
  replace f_b31 := Lw2.frz z_b3 f_b31
  have b70 : w2.cell? ⟨w1.heap.size, 0, none⟩ = some (.slice afb5 C2.length cfb5) := by subst hW11; exact qCl
  have b71 : w2.cell? ⟨w1.heap.size, 1, none⟩ = some (.slice efb5 E2.length dfb5) := by subst hW11; exact qCl
  have z_b1 : w.heap.size < w2.heap.size := qB b10
  have z_b2 : w.heap.size + 1 < w2.heap.size := qB b20
  have z_b3 : w.heap.size + 1 + 1 < w2.heap.size := qB b30
  have z_b7 : w1.heap.size < w2.heap.size := qB b70
  replace bf4 := bf4.ext Lw2
  have s_w2 : w.heap.size ≤ w2.heap.size := Xw2.size
  clear hW11
  go_wp2_with fail
  generalize hW12 : ((w2.setCell ⟨w.heap.size + 1 + 1, 0, none⟩ (.slice afb5 C2.length cfb5)).setCell ⟨w.heap.size + 1 + 1, 1, none⟩ (.slice efb5 E2.length dfb5)) = w3 at *
  have Kw3 : Chg (w.heap.size + 1 + 1) (w.heap.size + 1 + 1 + 1) w2 w3 := by subst hW12; exact qCh
  have Xw3 : Ext w w3 := by subst hW12; exact qXt
  replace b10 := Kw3.cell (by omega) b10
  replace b11 := Kw3.cell (by omega) b11
  replace b20 := Kw3.cell (by omega) b20
  replace b21 := Kw3.cell (by omega) b21
  replace b30 : w3.cell? ⟨w.heap.size + 1 + 1, 0, none⟩ = some (.slice afb5 C2.length cfb5) := by subst hW12; go_simp
  replace f_b30 : w3.frozen? ⟨w.heap.size + 1 + 1, 0, none⟩ = false := by subst hW12; first | (simp only [World.frozen?_setCell]; with_reducible assumption) | go_simp
  replace b31 : w3.cell? ⟨w.heap.size + 1 + 1, 1, none⟩ = some (.slice efb5 E2.length dfb5) := by subst hW12; go_simp
  replace f_b31 : w3.frozen? ⟨w.heap.size + 1 + 1, 1, none⟩ = false := by subst hW12; first | (simp only [World.frozen?_setCell]; with_reducible assumption) | go_simp
  replace b70 := Kw3.cell (by omega) b70
  replace b71 := Kw3.cell (by omega) b71
  replace bf4 := bf4.chg Kw3 (by omega)
  clear Kw3
  have z_b1 : w.heap.size < w3.heap.size := qB b10
  have z_b2 : w.heap.size + 1 < w3.heap.size := qB b20
  have z_b3 : w.heap.size + 1 + 1 < w3.heap.size := qB b30
  have z_b7 : w1.heap.size < w3.heap.size := qB b70
  have s_w3 : w.heap.size ≤ w3.heap.size := Xw3.size
  clear hW12
  refine bodyPost_ret (v := .tuple #[.agg #[.slice afb5 C2.length cfb5, .slice efb5 E2.length dfb5], Value.string { data := #[111, 107] }]) (by simp only [results, Try.results64]; go_simp) rfl ?_
  exact ⟨_, _, C2, E2, _, rfl, (hok.out (by trivial)), .inl ⟨_, (bf4.ext qXt).lower (by omega)⟩, (Xw3.trans qXt)⟩

set_option maxHeartbeats 6400000 in
theorem apply_7 (cells : List Int) (es : List Exp) (cv ev : Value) (ns : List Int) (nv : Value) (w : World) (l1 l2 : Nat) (h1 : Ints w l1 cv cells) (h2 : Exps w l2 ev es) (hv : bufB cells es = true) (l3 : Nat) (h3 : Ints w l3 nv ns) (hl : 1 ≤ ns.length) :
  Calls Try.prog 64 #[.agg #[cv, ev], .agg #[.int .i64 7, nv]] w (PApp cv ev cells es w) := by
 obtain ⟨p0, c0, rfl⟩ := h1.form
 obtain ⟨p1, c1, rfl⟩ := h2.form
 have he1 := h2.len
 have hc1 := h1.len
 obtain ⟨pn, cn, rfl⟩ := h3.form
 have hl0 : 0 < ns.length := by omega
 replace hv := Lib.hid hv
 obtain ⟨C2, E2, O2, hX⟩ : ∃ C2 E2 O2, relA cells es (ns.getD 0 0) = (C2, E2, O2) := ⟨_, _, _, rfl⟩
 have hok : O2 = true → bufB C2 E2 = true := fun ho => by have h7 := relA_valid (h := (show (relA cells es (ns.getD 0 0)).2.2 = true by rw [hX]; exact ho)); rw [hX] at h7; exact h7
 replace hok := Lib.hid hok
 replace hX := Lib.hid hX
 cases O2
 ·
  go_enter Try.func64, Try.ntmps64
  go_wp2_with fail
  refine (pbx_eq hX.out (done_7 cells es _ _ ns _ _ _ _ (h1.ext qXt) (h2.ext qXt) _ (h3.ext qXt) (by omega))).mono ?_
  rintro e w1 ⟨cvfb5, evfb5, R6, rfl, bf4, xw1⟩
  have Lw1 : Ext w w1 := Ext.trans qXt xw1
  have Xw1 : Ext w w1 := Lw1
  have b10 : w1.cell? ⟨w.heap.size, 0, none⟩ = some (.slice p0 cells.length c0) := xw1.cell qCl
  have b11 : w1.cell? ⟨w.heap.size, 1, none⟩ = some (.slice p1 es.length c1) := xw1.cell qCl
  have b20 : w1.cell? ⟨w.heap.size + 1, 0, none⟩ = some (.int .i64 7) := xw1.cell qCl
  have b21 : w1.cell? ⟨w.heap.size + 1, 1, none⟩ = some (.slice pn ns.length cn) := xw1.cell qCl
  have b30 : w1.cell? ⟨w.heap.size + 1 + 1, 0, none⟩ = some (.slice none 0 0) := xw1.cell qCl
  have b31 : w1.cell? ⟨w.heap.size + 1 + 1, 1, none⟩ = some (.slice none 0 0) := xw1.cell qCl
  have f_b30 : w1.frozen? ⟨w.heap.size + 1 + 1, 0, none⟩ = false := xw1.frz (by simp <;> omega) qFz
  have f_b31 : w1.frozen? ⟨w.heap.size + 1 + 1, 1, none⟩ = false := xw1.frz (by simp <;> omega) qFz
  have z_b1 : w.heap.size < w1.heap.size := qB b10
  have z_b2 : w.heap.size + 1 < w1.heap.size := qB b20
  have z_b3 : w.heap.size + 1 + 1 < w1.heap.size := qB b30
  have s_w1 : w.heap.size ≤ w1.heap.size := Xw1.size
  clear xw1
  replace bf4 := bf4.lower (lo' := w.heap.size + 1 + 1 + 1) qSo
  obtain ⟨afb5, cfb5, rfl⟩ := bf4.ints.form
  obtain ⟨efb5, dfb5, rfl⟩ := bf4.exps.form
  have q_bf4 := Lib.hid bf4.at
  go_upto_region 2 with fail
  generalize hW13 : w1.alloc (.cells #[.slice afb5 C2.length cfb5, .slice efb5 E2.length dfb5] 26) = w2 at *
  have Lw2 : Ext w1 w2 := by subst hW13; exact qXt
  have Xw2 : Ext w w2 := Xw1.trans Lw2
  replace b10 := Lw2.cell b10
  replace b11 := Lw2.cell b11
  replace b20 := Lw2.cell b20
  replace b21 := Lw2.cell b21
  replace b30 := Lw2.cell b30
  replace b31 := Lw2.cell b31
  replace f_b30 := Lw2.frz z_b3 f_b30
  replace f_b31 := Lw2.frz z_b3 f_b31
  have b70 : w2.cell? ⟨w1.heap.size, 0, none⟩ = some (.slice afb5 C2.length cfb5) := by subst hW13; exact qCl
  have b71 : w2.cell? ⟨w1.heap.size, 1, none⟩ = some (.slice efb5 E2.length dfb5) := by subst hW13; exact qCl
  have z_b1 : w.heap.size < w2.heap.size := qB b10
  have z_b2 : w.heap.size + 1 < w2.heap.size := qB b20
  have z_b3 : w.heap.size + 1 + 1 < w2.heap.size := qB b30
  have z_b7 : w1.heap.size < w2.heap.size := qB b70
  replace bf4 := bf4.ext Lw2
  have s_w2 : w.heap.size ≤ w2.heap.size := Xw2.size
  clear hW13
  go_wp2_with fail
  generalize hW14 : ((w2.setCell ⟨w.heap.size + 1 + 1, 0, none⟩ (.slice p0 cells.length c0)).setCell ⟨w.heap.size + 1 + 1, 1, none⟩ (.slice p1 es.length c1)) = w3 at *
  have Kw3 : Chg (w.heap.size + 1 + 1) (w.heap.size + 1 + 1 + 1) w2 w3 := by subst hW14; exact qCh
  have Xw3 : Ext w w3 := by subst hW14; exact qXt
  replace b10 := Kw3.cell (by omega) b10
  replace b11 := Kw3.cell (by omega) b11
  replace b20 := Kw3.cell (by omega) b20
  replace b21 := Kw3.cell (by omega) b21
  replace b30 : w3.cell? ⟨w.heap.size + 1 + 1, 0, none⟩ = some (.slice p0 cells.length c0) := by subst hW14; go_simp
  replace f_b30 : w3.frozen? ⟨w.heap.size + 1 + 1, 0, none⟩ = false := by subst hW14; first | (simp only [World.frozen?_setCell]; with_reducible assumption) | go_simp
  replace b31 : w3.cell? ⟨w.heap.size + 1 + 1, 1, none⟩ = some (.slice p1 es.length c1) := by subst hW14; go_simp
  replace f_b31 : w3.frozen? ⟨w.heap.size + 1 + 1, 1, none⟩ = false := by subst hW14; first | (simp only [World.frozen?_setCell]; with_reducible assumption) | go_simp
  replace b70 := Kw3.cell (by omega) b70
  replace b71 := Kw3.cell (by omega) b71
  replace bf4 := bf4.chg Kw3 (by omega)
  clear Kw3
  have z_b1 : w.heap.size < w3.heap.size := qB b10
  have z_b2 : w.heap.size + 1 < w3.heap.size := qB b20
  have z_b3 : w.heap.size + 1 + 1 < w3.heap.size := qB b30
  have z_b7 : w1.heap.size < w3.heap.size := qB b70
  have s_w3 : w.heap.size ≤ w3.heap.size := Xw3.size
  clear hW14
  refine bodyPost_ret (v := .tuple #[.agg #[.slice p0 cells.length c0, .slice p1 es.length c1], Value.string { data := #[110, 111] }]) (by simp only [results, Try.results64]; go_simp) rfl ?_
  exact ⟨_, _, cells, es, _, rfl, hv.out, .inr ⟨rfl, rfl, rfl, rfl⟩, (Xw3.trans qXt)⟩
 ·
  go_enter Try.func64, Try.ntmps64
  go_wp2_with fail
  refine (pbx_eq hX.out (done_7 cells es _ _ ns _ _ _ _ (h1.ext qXt) (h2.ext qXt) _ (h3.ext qXt) (by omega))).mono ?_
  rintro e w1 ⟨cvfb5, evfb5, R6, rfl, bf4, xw1⟩
  have Lw1 : Ext w w1 := Ext.trans qXt xw1
  have Xw1 : Ext w w1 := Lw1
  have b10 : w1.cell? ⟨w.heap.size, 0, none⟩ = some (.slice p0 cells.length c0) := xw1.cell qCl
  have b11 : w1.cell? ⟨w.heap.size, 1, none⟩ = some (.slice p1 es.length c1) := xw1.cell qCl
  have b20 : w1.cell? ⟨w.heap.size + 1, 0, none⟩ = some (.int .i64 7) := xw1.cell qCl
  have b21 : w1.cell? ⟨w.heap.size + 1, 1, none⟩ = some (.slice pn ns.length cn) := xw1.cell qCl
  have b30 : w1.cell? ⟨w.heap.size + 1 + 1, 0, none⟩ = some (.slice none 0 0) := xw1.cell qCl
  have b31 : w1.cell? ⟨w.heap.size + 1 + 1, 1, none⟩ = some (.slice none 0 0) := xw1.cell qCl
  have f_b30 : w1.frozen? ⟨w.heap.size + 1 + 1, 0, none⟩ = false := xw1.frz (by simp <;> omega) qFz
  have f_b31 : w1.frozen? ⟨w.heap.size + 1 + 1, 1, none⟩ = false := xw1.frz (by simp <;> omega) qFz
  have z_b1 : w.heap.size < w1.heap.size := qB b10
  have z_b2 : w.heap.size + 1 < w1.heap.size := qB b20
  have z_b3 : w.heap.size + 1 + 1 < w1.heap.size := qB b30
  have s_w1 : w.heap.size ≤ w1.heap.size := Xw1.size
  clear xw1
  replace bf4 := bf4.lower (lo' := w.heap.size + 1 + 1 + 1) qSo
  obtain ⟨afb5, cfb5, rfl⟩ := bf4.ints.form
  obtain ⟨efb5, dfb5, rfl⟩ := bf4.exps.form
  have q_bf4 := Lib.hid bf4.at
  go_upto_region 2 with fail
  generalize hW15 : w1.alloc (.cells #[.slice afb5 C2.length cfb5, .slice efb5 E2.length dfb5] 26) = w2 at *
  have Lw2 : Ext w1 w2 := by subst hW15; exact qXt
  have Xw2 : Ext w w2 := Xw1.trans Lw2
  replace b10 := Lw2.cell b10
  replace b11 := Lw2.cell b11
  replace b20 := Lw2.cell b20
  replace b21 := Lw2.cell b21
  replace b30 := Lw2.cell b30
  replace b31 := Lw2.cell b31
  replace f_b30 := Lw2.frz z_b3 f_b30
  replace f_b31 := Lw2.frz z_b3 f_b31
  have b70 : w2.cell? ⟨w1.heap.size, 0, none⟩ = some (.slice afb5 C2.length cfb5) := by subst hW15; exact qCl
  have b71 : w2.cell? ⟨w1.heap.size, 1, none⟩ = some (.slice efb5 E2.length dfb5) := by subst hW15; exact qCl
  have z_b1 : w.heap.size < w2.heap.size := qB b10
  have z_b2 : w.heap.size + 1 < w2.heap.size := qB b20
  have z_b3 : w.heap.size + 1 + 1 < w2.heap.size := qB b30
  have z_b7 : w1.heap.size < w2.heap.size := qB b70
  replace bf4 := bf4.ext Lw2
  have s_w2 : w.heap.size ≤ w2.heap.size := Xw2.size
  clear hW15
  go_wp2_with fail
  generalize hW16 : ((w2.setCell ⟨w.heap.size + 1 + 1, 0, none⟩ (.slice afb5 C2.length cfb5)).setCell ⟨w.heap.size + 1 + 1, 1, none⟩ (.slice efb5 E2.length dfb5)) = w3 at *
  have Kw3 : Chg (w.heap.size + 1 + 1) (w.heap.size + 1 + 1 + 1) w2 w3 := by subst hW16; exact qCh
  have Xw3 : Ext w w3 := by subst hW16; exact qXt
  replace b10 := Kw3.cell (by omega) b10
  replace b11 := Kw3.cell (by omega) b11
  replace b20 := Kw3.cell (by omega) b20
  replace b21 := Kw3.cell (by omega) b21
  replace b30 : w3.cell? ⟨w.heap.size + 1 + 1, 0, none⟩ = some (.slice afb5 C2.length cfb5) := by subst hW16; go_simp
  replace f_b30 : w3.frozen? ⟨w.heap.size + 1 + 1, 0, none⟩ = false := by subst hW16; first | (simp only [World.frozen?_setCell]; with_reducible assumption) | go_simp
  replace b31 : w3.cell? ⟨w.heap.size + 1 + 1, 1, none⟩ = some (.slice efb5 E2.length dfb5) := by subst hW16; go_simp
  replace f_b31 : w3.frozen? ⟨w.heap.size + 1 + 1, 1, none⟩ = false := by subst hW16; first | (simp only [World.frozen?_setCell]; with_reducible assumption) | go_simp
  replace b70 := Kw3.cell (by omega) b70
  replace b71 := Kw3.cell (by omega) b71
  replace bf4 := bf4.chg Kw3 (by omega)
  clear Kw3
  have z_b1 : w.heap.size < w3.heap.size := qB b10
  have z_b2 : w.heap.size + 1 < w3.heap.size := qB b20
  have z_b3 : w.heap.size + 1 + 1 < w3.heap.size := qB b30
  have z_b7 : w1.heap.size < w3.heap.size := qB b70
  have s_w3 : w.heap.size ≤ w3.heap.size := Xw3.size
  clear hW16
  refine bodyPost_ret (v := .tuple #[.agg #[.slice afb5 C2.length cfb5, .slice efb5 E2.length dfb5], Value.string { data := #[111, 107] }]) (by simp only [results, Try.results64]; go_simp) rfl ?_
  exact ⟨_, _, C2, E2, _, rfl, (hok.out (by trivial)), .inl ⟨_, (bf4.ext qXt).lower (by omega)⟩, (Xw3.trans qXt)⟩


end Go.Proofs.Ytgklaobfikbiiaa

/- Walks: acts of the reference, with answers. -/
namespace Go.Proofs.Ytgklaobfikbiiaa
open Go.RowKit
set_option linter.unusedVariables false
set_option maxRecDepth 100000

set_option maxHeartbeats 6400000 in
theorem apply_1 (cells : List Int) (es : List Exp) (cv ev : Value) (ns : List Int) (nv : Value) (w : World) (l1 l2 : Nat) (h1 : Ints w l1 cv cells) (h2 : Exps w l2 ev es) (hv : bufB cells es = true) (l3 : Nat) (h3 : Ints w l3 nv ns) (hl : 3 ≤ ns.length) :
  Calls Try.prog 64 #[.agg #[cv, ev], .agg #[.int .i64 1, nv]] w (PApp cv ev cells es w) := by
 obtain ⟨p0, c0, rfl⟩ := h1.form
 obtain ⟨p1, c1, rfl⟩ := h2.form
 have he1 := h2.len
 have hc1 := h1.len
 obtain ⟨pn, cn, rfl⟩ := h3.form
 have hl0 : 0 < ns.length := by omega
 have hl1 : 1 < ns.length := by omega
 have hl2 : 2 < ns.length := by omega
 replace hv := Lib.hid hv
 obtain ⟨C2, E2, O2, hX⟩ : ∃ C2 E2 O2, expA cells es (ns.getD 0 0) [(ns.getD 1 0)] [(ns.getD 2 0)] = (C2, E2, O2) := ⟨_, _, _, rfl⟩
 have hok : O2 = true → bufB C2 E2 = true := fun ho => by have h7 := expA_valid (h := (show (expA cells es (ns.getD 0 0) [(ns.getD 1 0)] [(ns.getD 2 0)]).2.2 = true by rw [hX]; exact ho)); rw [hX] at h7; exact h7
 replace hok := Lib.hid hok
 have hmx : O2 = true → ∃ m, E2.length = m + 1 ∧ m < 10 := fun ho => expA_more (by rw [hX, ho])
 replace hX := Lib.hid hX
 replace hmx := Lib.hid hmx
 cases O2
 ·
  go_enter Try.func64, Try.ntmps64
  go_wp2_with fail
  refine (pbx_eq hX.out (done_1 cells es _ _ ns _ _ _ _ (h1.ext qXt) (h2.ext qXt) _ (h3.ext qXt) (by omega))).mono ?_
  rintro e w1 ⟨cvfb5, evfb5, R6, rfl, bf4, xw1⟩
  have Lw1 : Ext w w1 := Ext.trans qXt xw1
  have Xw1 : Ext w w1 := Lw1
  have b10 : w1.cell? ⟨w.heap.size, 0, none⟩ = some (.slice p0 cells.length c0) := xw1.cell qCl
  have b11 : w1.cell? ⟨w.heap.size, 1, none⟩ = some (.slice p1 es.length c1) := xw1.cell qCl
  have b20 : w1.cell? ⟨w.heap.size + 1, 0, none⟩ = some (.int .i64 1) := xw1.cell qCl
  have b21 : w1.cell? ⟨w.heap.size + 1, 1, none⟩ = some (.slice pn ns.length cn) := xw1.cell qCl
  have b30 : w1.cell? ⟨w.heap.size + 1 + 1, 0, none⟩ = some (.slice none 0 0) := xw1.cell qCl
  have b31 : w1.cell? ⟨w.heap.size + 1 + 1, 1, none⟩ = some (.slice none 0 0) := xw1.cell qCl
  have f_b30 : w1.frozen? ⟨w.heap.size + 1 + 1, 0, none⟩ = false := xw1.frz (by simp <;> omega) qFz
  have f_b31 : w1.frozen? ⟨w.heap.size + 1 + 1, 1, none⟩ = false := xw1.frz (by simp <;> omega) qFz
  have z_b1 : w.heap.size < w1.heap.size := qB b10
  have z_b2 : w.heap.size + 1 < w1.heap.size := qB b20
  have z_b3 : w.heap.size + 1 + 1 < w1.heap.size := qB b30
  have s_w1 : w.heap.size ≤ w1.heap.size := Xw1.size
  clear xw1
  replace bf4 := bf4.lower (lo' := w.heap.size + 1 + 1 + 1) qSo
  obtain ⟨afb5, cfb5, rfl⟩ := bf4.ints.form
  obtain ⟨efb5, dfb5, rfl⟩ := bf4.exps.form
  have q_bf4 := Lib.hid bf4.at
  go_upto_region 2 with fail
  generalize hW1 : w1.alloc (.cells #[.slice afb5 C2.length cfb5, .slice efb5 E2.length dfb5] 26) = w2 at *
  have Lw2 : Ext w1 w2 := by subst hW1; exact qXt
  have Xw2 : Ext w w2 := Xw1.trans Lw2
  replace b10 := Lw2.cell b10
  replace b11 := Lw2.cell b11
  replace b20 := Lw2.cell b20
  replace b21 := Lw2.cell b21
  replace b30 := Lw2.cell b30
  replace b31 := Lw2.cell b31
  replace f_b30 := Lw2.frz z_b3 f_b30
  replace f_b31 := Lw2.frz z_b3 f_b31
  have b70 : w2.cell? ⟨w1.heap.size, 0, none⟩ = some (.slice afb5 C2.length cfb5) := by subst hW1; exact qCl
  have b71 : w2.cell? ⟨w1.heap.size, 1, none⟩ = some (.slice efb5 E2.length dfb5) := by subst hW1; exact qCl
  have z_b1 : w.heap.size < w2.heap.size := qB b10
  have z_b2 : w.heap.size + 1 < w2.heap.size := qB b20
  have z_b3 : w.heap.size + 1 + 1 < w2.heap.size := qB b30
  have z_b7 : w1.heap.size < w2.heap.size := qB b70
  replace bf4 := bf4.ext Lw2
  have s_w2 : w.heap.size ≤ w2.heap.size := Xw2.size
  clear hW1
  go_wp2_with fail
  generalize hW2 : ((w2.setCell ⟨w.heap.size + 1 + 1, 0, none⟩ (.slice p0 cells.length c0)).setCell ⟨w.heap.size + 1 + 1, 1, none⟩ (.slice p1 es.length c1)) = w3 at *
  have Kw3 : Chg (w.heap.size + 1 + 1) (w.heap.size + 1 + 1 + 1) w2 w3 := by subst hW2; exact qCh
  have Xw3 : Ext w w3 := by subst hW2; exact qXt
  replace b10 := Kw3.cell (by omega) b10
  replace b11 := Kw3.cell (by omega) b11
  replace b20 := Kw3.cell (by omega) b20
  replace b21 := Kw3.cell (by omega) b21
  replace b30 : w3.cell? ⟨w.heap.size + 1 + 1, 0, none⟩ = some (.slice p0 cells.length c0) := by subst hW2; go_simp
  replace f_b30 : w3.frozen? ⟨w.heap.size + 1 + 1, 0, none⟩ = false := by subst hW2; first | (simp only [World.frozen?_setCell]; with_reducible assumption) | go_simp
  replace b31 : w3.cell? ⟨w.heap.size + 1 + 1, 1, none⟩ = some (.slice p1 es.length c1) := by subst hW2; go_simp
  replace f_b31 : w3.frozen? ⟨w.heap.size + 1 + 1, 1, none⟩ = false := by subst hW2; first | (simp only [World.frozen?_setCell]; with_reducible assumption) | go_simp
  replace b70 := Kw3.cell (by omega) b70
  replace b71 := Kw3.cell (by omega) b71
  replace bf4 := bf4.chg Kw3 (by omega)
  clear Kw3
  have z_b1 : w.heap.size < w3.heap.size := qB b10
  have z_b2 : w.heap.size + 1 < w3.heap.size := qB b20
  have z_b3 : w.heap.size + 1 + 1 < w3.heap.size := qB b30
  have z_b7 : w1.heap.size < w3.heap.size := qB b70
  have s_w3 : w.heap.size ≤ w3.heap.size := Xw3.size
  clear hW2
  refine bodyPost_ret (v := .tuple #[.agg #[.slice p0 cells.length c0, .slice p1 es.length c1], Value.string { data := #[110, 111] }]) (by simp only [results, Try.results64]; go_simp) rfl ?_
  exact ⟨_, _, cells, es, _, rfl, hv.out, .inr ⟨rfl, rfl, rfl, rfl⟩, (Xw3.trans qXt)⟩
 ·
  obtain ⟨m, hm7, hm8⟩ := hmx.out (by trivial)
  have hwm : IntKind.i64.wrap (m : Int) = (m : Int) := IntWalk.i64_in _ (by omega)
  replace hm7 := Lib.hid hm7
  clear hmx
  go_enter Try.func64, Try.ntmps64
  go_wp2_with fail
  refine (pbx_eq hX.out (done_1 cells es _ _ ns _ _ _ _ (h1.ext qXt) (h2.ext qXt) _ (h3.ext qXt) (by omega))).mono ?_
  rintro e w1 ⟨cvfb5, evfb5, R6, rfl, bf4, xw1⟩
  have Lw1 : Ext w w1 := Ext.trans qXt xw1
  have Xw1 : Ext w w1 := Lw1
  have b10 : w1.cell? ⟨w.heap.size, 0, none⟩ = some (.slice p0 cells.length c0) := xw1.cell qCl
  have b11 : w1.cell? ⟨w.heap.size, 1, none⟩ = some (.slice p1 es.length c1) := xw1.cell qCl
  have b20 : w1.cell? ⟨w.heap.size + 1, 0, none⟩ = some (.int .i64 1) := xw1.cell qCl
  have b21 : w1.cell? ⟨w.heap.size + 1, 1, none⟩ = some (.slice pn ns.length cn) := xw1.cell qCl
  have b30 : w1.cell? ⟨w.heap.size + 1 + 1, 0, none⟩ = some (.slice none 0 0) := xw1.cell qCl
  have b31 : w1.cell? ⟨w.heap.size + 1 + 1, 1, none⟩ = some (.slice none 0 0) := xw1.cell qCl
  have f_b30 : w1.frozen? ⟨w.heap.size + 1 + 1, 0, none⟩ = false := xw1.frz (by simp <;> omega) qFz
  have f_b31 : w1.frozen? ⟨w.heap.size + 1 + 1, 1, none⟩ = false := xw1.frz (by simp <;> omega) qFz
  have z_b1 : w.heap.size < w1.heap.size := qB b10
  have z_b2 : w.heap.size + 1 < w1.heap.size := qB b20
  have z_b3 : w.heap.size + 1 + 1 < w1.heap.size := qB b30
  have s_w1 : w.heap.size ≤ w1.heap.size := Xw1.size
  clear xw1
  replace bf4 := bf4.lower (lo' := w.heap.size + 1 + 1 + 1) qSo
  obtain ⟨afb5, cfb5, rfl⟩ := bf4.ints.form
  obtain ⟨efb5, dfb5, hEfb5⟩ := bf4.exps.form
  rw [hm7.out] at hEfb5
  subst hEfb5
  have q_bf4 := Lib.hid bf4.at
  go_upto_region 2 with fail
  generalize hW3 : w1.alloc (.cells #[.slice afb5 C2.length cfb5, .slice efb5 (m + 1) dfb5] 26) = w2 at *
  have Lw2 : Ext w1 w2 := by subst hW3; exact qXt
  have Xw2 : Ext w w2 := Xw1.trans Lw2
  replace b10 := Lw2.cell b10
  replace b11 := Lw2.cell b11
  replace b20 := Lw2.cell b20
  replace b21 := Lw2.cell b21
  replace b30 := Lw2.cell b30
  replace b31 := Lw2.cell b31
  replace f_b30 := Lw2.frz z_b3 f_b30
  replace f_b31 := Lw2.frz z_b3 f_b31
  have b70 : w2.cell? ⟨w1.heap.size, 0, none⟩ = some (.slice afb5 C2.length cfb5) := by subst hW3; exact qCl
  have b71 : w2.cell? ⟨w1.heap.size, 1, none⟩ = some (.slice efb5 (m + 1) dfb5) := by subst hW3; exact qCl
  have z_b1 : w.heap.size < w2.heap.size := qB b10
  have z_b2 : w.heap.size + 1 < w2.heap.size := qB b20
  have z_b3 : w.heap.size + 1 + 1 < w2.heap.size := qB b30
  have z_b7 : w1.heap.size < w2.heap.size := qB b70
  replace bf4 := bf4.ext Lw2
  have s_w2 : w.heap.size ≤ w2.heap.size := Xw2.size
  clear hW3
  go_wp2_with fail
  refine wp_region_held_drew (S := fun w' => w'.cell? ⟨w1.heap.size, 0, none⟩ = some (.slice afb5 C2.length cfb5) ∧ w'.cell? ⟨w1.heap.size, 1, none⟩ = some (.slice efb5 (m + 1) dfb5)) qKr ⟨b70, b71⟩ (fun hHeld => ?_)
  refine qHk (v := ?_) 0 rfl (.inl ⟨by rfl, ?_⟩) ?_
  rotate_left
  ·
   (intro w hSw; (try dsimp only at hSw); go_simp; try with_reducible rfl)
  try simp only [Act.put, qa, qb, qc, qD, qE, qF]
  refine qHk (v := ?_) 1 rfl (.inl ⟨by rfl, ?_⟩) ?_
  rotate_left
  ·
   (intro w hSw; (try dsimp only at hSw); go_simp; try with_reducible rfl)
  try simp only [Act.put, qa, qb, qc, qD, qE, qF]
  refine qHk (v := ?_) 2 rfl (.inl ⟨by rfl, ?_⟩) ?_
  rotate_left
  ·
   (intro w hSw; (try dsimp only at hSw); go_simp; try with_reducible rfl)
  try simp only [Act.put, qa, qb, qc, qD, qE, qF]
  refine qHk (v := ?_) 3 rfl (.inl ⟨by rfl, ?_⟩) ?_
  rotate_left
  ·
   (intro w hSw; (try dsimp only at hSw); go_simp; try with_reducible rfl)
  try simp only [Act.put, qa, qb, qc, qD, qE, qF]
  have hw8 : IntKind.i64.wrap (((m + 1) : Int) - 1) = ((m + 1) : Int) - 1 := IntWalk.i64_in _ (by omega)
  refine qHk (v := ?_) 4 rfl (.inl ⟨by rfl, ?_⟩) ?_
  rotate_left
  ·
   (intro w hSw; (try dsimp only at hSw); go_simp; try with_reducible rfl)
  try simp only [Act.put, qa, qb, qc, qD, qE, qF]
  refine qHr 5 rfl (fun K hK => ?_)
  try simp only [Act.put, qa, qb, qc, qD, qE, qF]
  go_simp
  refine (num1_c m (by omega) _).mono ?_
  rintro e w3 ⟨tx9, rfl, hz_tx9, xw3⟩
  have Lw3 : Ext w2 w3 := Ext.trans qXt xw3
  have Xw3 : Ext w w3 := Xw2.trans Lw3
  replace b10 := Lw3.cell b10
  replace b11 := Lw3.cell b11
  replace b20 := Lw3.cell b20
  replace b21 := Lw3.cell b21
  replace b30 := Lw3.cell b30
  replace b31 := Lw3.cell b31
  replace f_b30 := Lw3.frz z_b3 f_b30
  replace f_b31 := Lw3.frz z_b3 f_b31
  replace b70 := Lw3.cell b70
  replace b71 := Lw3.cell b71
  have z_b1 : w.heap.size < w3.heap.size := qB b10
  have z_b2 : w.heap.size + 1 < w3.heap.size := qB b20
  have z_b3 : w.heap.size + 1 + 1 < w3.heap.size := qB b30
  have z_b7 : w1.heap.size < w3.heap.size := qB b70
  replace bf4 := bf4.ext Lw3
  have s_w3 : w.heap.size ≤ w3.heap.size := Xw3.size
  clear xw3
  have hy_tx9 : (tx9.size : Int) ≤ 8388608 := by omega
  have hv_tx9 : ¬ 9223372036854775807 < 3 + tx9.size := by omega
  refine hK.out _ _ ⟨b70, b71⟩ (fun hHeld => ?_)
  clear hK K
  try simp only [Act.put, qa, qb, qc, qD, qE, qF]
  refine qHk (v := ?_) 6 rfl (.inl ⟨by rfl, ?_⟩) ?_
  rotate_left
  ·
   (intro w hSw; (try dsimp only at hSw); go_simp; try with_reducible rfl)
  try simp only [Act.put, qa, qb, qc, qD, qE, qF]
  refine qHr 7 rfl (fun K hK => ?_)
  try simp only [Act.put, qa, qb, qc, qD, qE, qF]
  go_simp
  generalize hW4 : ((w3.setCell ⟨w.heap.size + 1 + 1, 0, none⟩ (.slice afb5 C2.length cfb5)).setCell ⟨w.heap.size + 1 + 1, 1, none⟩ (.slice efb5 (m + 1) dfb5)) = w4 at *
  have Kw4 : Chg (w.heap.size + 1 + 1) (w.heap.size + 1 + 1 + 1) w3 w4 := by subst hW4; exact qCh
  have Xw4 : Ext w w4 := by subst hW4; exact qXt
  replace b10 := Kw4.cell (by omega) b10
  replace b11 := Kw4.cell (by omega) b11
  replace b20 := Kw4.cell (by omega) b20
  replace b21 := Kw4.cell (by omega) b21
  replace b30 : w4.cell? ⟨w.heap.size + 1 + 1, 0, none⟩ = some (.slice afb5 C2.length cfb5) := by subst hW4; go_simp
  replace f_b30 : w4.frozen? ⟨w.heap.size + 1 + 1, 0, none⟩ = false := by subst hW4; first | (simp only [World.frozen?_setCell]; with_reducible assumption) | go_simp
  replace b31 : w4.cell? ⟨w.heap.size + 1 + 1, 1, none⟩ = some (.slice efb5 (m + 1) dfb5) := by subst hW4; go_simp
  replace f_b31 : w4.frozen? ⟨w.heap.size + 1 + 1, 1, none⟩ = false := by subst hW4; first | (simp only [World.frozen?_setCell]; with_reducible assumption) | go_simp
  replace b70 := Kw4.cell (by omega) b70
  replace b71 := Kw4.cell (by omega) b71
  replace bf4 := bf4.chg Kw4 (by omega)
  clear Kw4
  have z_b1 : w.heap.size < w4.heap.size := qB b10
  have z_b2 : w.heap.size + 1 < w4.heap.size := qB b20
  have z_b3 : w.heap.size + 1 + 1 < w4.heap.size := qB b30
  have z_b7 : w1.heap.size < w4.heap.size := qB b70
  have s_w4 : w.heap.size ≤ w4.heap.size := Xw4.size
  clear hW4
  refine hK.out _ _ ⟨b70, b71⟩ (fun hHeld => ?_)
  clear hK K
  try simp only [Act.put, qa, qb, qc, qD, qE, qF]
  refine qHk (v := ?_) 8 rfl (.inl ⟨by rfl, ?_⟩) ?_
  rotate_left
  ·
   (intro w hSw; (try dsimp only at hSw); go_simp; try with_reducible rfl)
  try simp only [Act.put, qa, qb, qc, qD, qE, qF]
  refine wpAnyH_done qKr ?_ _
  clear hHeld hw8
  go_wp2_with fail
  refine bodyPost_ret (v := .tuple #[.agg #[.slice afb5 C2.length cfb5, .slice efb5 (m + 1) dfb5], .string (({ data := #[97, 116, 32] } : ByteArray) ++ tx9)]) (by simp only [results, Try.results64]; go_simp) rfl ?_
  exact ⟨_, _, C2, E2, _, rfl, (hok.out (by trivial)), .inl ⟨_, (bf4.ext qXt).lower (by omega)⟩, (Xw4.trans qXt)⟩

set_option maxHeartbeats 6400000 in
theorem apply_2 (cells : List Int) (es : List Exp) (cv ev : Value) (ns : List Int) (nv : Value) (w : World) (l1 l2 : Nat) (h1 : Ints w l1 cv cells) (h2 : Exps w l2 ev es) (hv : bufB cells es = true) (l3 : Nat) (h3 : Ints w l3 nv ns) (hl : 4 ≤ ns.length) :
  Calls Try.prog 64 #[.agg #[cv, ev], .agg #[.int .i64 2, nv]] w (PApp cv ev cells es w) := by
 obtain ⟨p0, c0, rfl⟩ := h1.form
 obtain ⟨p1, c1, rfl⟩ := h2.form
 have he1 := h2.len
 have hc1 := h1.len
 obtain ⟨pn, cn, rfl⟩ := h3.form
 have hl0 : 0 < ns.length := by omega
 have hl1 : 1 < ns.length := by omega
 have hl2 : 2 < ns.length := by omega
 have hl3 : 3 < ns.length := by omega
 replace hv := Lib.hid hv
 obtain ⟨C2, E2, O2, hX⟩ : ∃ C2 E2 O2, parA cells es (ns.getD 0 0) 0 (ns.getD 1 0) (ns.getD 2 0) (ns.getD 3 0) true true = (C2, E2, O2) := ⟨_, _, _, rfl⟩
 have hok : O2 = true → bufB C2 E2 = true := fun ho => by have h7 := parA_valid (h := (show (parA cells es (ns.getD 0 0) 0 (ns.getD 1 0) (ns.getD 2 0) (ns.getD 3 0) true true).2.2 = true by rw [hX]; exact ho)); rw [hX] at h7; exact h7
 replace hok := Lib.hid hok
 have hmx : O2 = true → ∃ m, E2.length = m + 1 ∧ m < 10 := fun ho => parA_more (by rw [hX, ho])
 replace hX := Lib.hid hX
 replace hmx := Lib.hid hmx
 cases O2
 ·
  go_enter Try.func64, Try.ntmps64
  go_wp2_with fail
  refine (pbx_eq hX.out (done_2 cells es _ _ ns _ _ _ _ (h1.ext qXt) (h2.ext qXt) _ (h3.ext qXt) (by omega))).mono ?_
  rintro e w1 ⟨cvfb5, evfb5, R6, rfl, bf4, xw1⟩
  have Lw1 : Ext w w1 := Ext.trans qXt xw1
  have Xw1 : Ext w w1 := Lw1
  have b10 : w1.cell? ⟨w.heap.size, 0, none⟩ = some (.slice p0 cells.length c0) := xw1.cell qCl
  have b11 : w1.cell? ⟨w.heap.size, 1, none⟩ = some (.slice p1 es.length c1) := xw1.cell qCl
  have b20 : w1.cell? ⟨w.heap.size + 1, 0, none⟩ = some (.int .i64 2) := xw1.cell qCl
  have b21 : w1.cell? ⟨w.heap.size + 1, 1, none⟩ = some (.slice pn ns.length cn) := xw1.cell qCl
  have b30 : w1.cell? ⟨w.heap.size + 1 + 1, 0, none⟩ = some (.slice none 0 0) := xw1.cell qCl
  have b31 : w1.cell? ⟨w.heap.size + 1 + 1, 1, none⟩ = some (.slice none 0 0) := xw1.cell qCl
  have f_b30 : w1.frozen? ⟨w.heap.size + 1 + 1, 0, none⟩ = false := xw1.frz (by simp <;> omega) qFz
  have f_b31 : w1.frozen? ⟨w.heap.size + 1 + 1, 1, none⟩ = false := xw1.frz (by simp <;> omega) qFz
  have z_b1 : w.heap.size < w1.heap.size := qB b10
  have z_b2 : w.heap.size + 1 < w1.heap.size := qB b20
  have z_b3 : w.heap.size + 1 + 1 < w1.heap.size := qB b30
  have s_w1 : w.heap.size ≤ w1.heap.size := Xw1.size
  clear xw1
  replace bf4 := bf4.lower (lo' := w.heap.size + 1 + 1 + 1) qSo
  obtain ⟨afb5, cfb5, rfl⟩ := bf4.ints.form
  obtain ⟨efb5, dfb5, rfl⟩ := bf4.exps.form
  have q_bf4 := Lib.hid bf4.at
  go_upto_region 2 with fail
  generalize hW5 : w1.alloc (.cells #[.slice afb5 C2.length cfb5, .slice efb5 E2.length dfb5] 26) = w2 at *
  have Lw2 : Ext w1 w2 := by subst hW5; exact qXt
  have Xw2 : Ext w w2 := Xw1.trans Lw2
  replace b10 := Lw2.cell b10
  replace b11 := Lw2.cell b11
  replace b20 := Lw2.cell b20
  replace b21 := Lw2.cell b21
  replace b30 := Lw2.cell b30
  replace b31 := Lw2.cell b31
  replace f_b30 := Lw2.frz z_b3 f_b30
  replace f_b31 := Lw2.frz z_b3 f_b31
  have b70 : w2.cell? ⟨w1.heap.size, 0, none⟩ = some (.slice afb5 C2.length cfb5) := by subst hW5; exact qCl
  have b71 : w2.cell? ⟨w1.heap.size, 1, none⟩ = some (.slice efb5 E2.length dfb5) := by subst hW5; exact qCl
  have z_b1 : w.heap.size < w2.heap.size := qB b10
  have z_b2 : w.heap.size + 1 < w2.heap.size := qB b20
  have z_b3 : w.heap.size + 1 + 1 < w2.heap.size := qB b30
  have z_b7 : w1.heap.size < w2.heap.size := qB b70
  replace bf4 := bf4.ext Lw2
  have s_w2 : w.heap.size ≤ w2.heap.size := Xw2.size
  clear hW5
  go_wp2_with fail
  generalize hW6 : ((w2.setCell ⟨w.heap.size + 1 + 1, 0, none⟩ (.slice p0 cells.length c0)).setCell ⟨w.heap.size + 1 + 1, 1, none⟩ (.slice p1 es.length c1)) = w3 at *
  have Kw3 : Chg (w.heap.size + 1 + 1) (w.heap.size + 1 + 1 + 1) w2 w3 := by subst hW6; exact qCh
  have Xw3 : Ext w w3 := by subst hW6; exact qXt
  replace b10 := Kw3.cell (by omega) b10
  replace b11 := Kw3.cell (by omega) b11
  replace b20 := Kw3.cell (by omega) b20
  replace b21 := Kw3.cell (by omega) b21
  replace b30 : w3.cell? ⟨w.heap.size + 1 + 1, 0, none⟩ = some (.slice p0 cells.length c0) := by subst hW6; go_simp
  replace f_b30 : w3.frozen? ⟨w.heap.size + 1 + 1, 0, none⟩ = false := by subst hW6; first | (simp only [World.frozen?_setCell]; with_reducible assumption) | go_simp
  replace b31 : w3.cell? ⟨w.heap.size + 1 + 1, 1, none⟩ = some (.slice p1 es.length c1) := by subst hW6; go_simp
  replace f_b31 : w3.frozen? ⟨w.heap.size + 1 + 1, 1, none⟩ = false := by subst hW6; first | (simp only [World.frozen?_setCell]; with_reducible assumption) | go_simp
  replace b70 := Kw3.cell (by omega) b70
  replace b71 := Kw3.cell (by omega) b71
  replace bf4 := bf4.chg Kw3 (by omega)
  clear Kw3
  have z_b1 : w.heap.size < w3.heap.size := qB b10
  have z_b2 : w.heap.size + 1 < w3.heap.size := qB b20
  have z_b3 : w.heap.size + 1 + 1 < w3.heap.size := qB b30
  have z_b7 : w1.heap.size < w3.heap.size := qB b70
  have s_w3 : w.heap.size ≤ w3.heap.size := Xw3.size
  clear hW6
  refine bodyPost_ret (v := .tuple #[.agg #[.slice p0 cells.length c0, .slice p1 es.length c1], Value.string { data := #[110, 111] }]) (by simp only [results, Try.results64]; go_simp) rfl ?_
  exact ⟨_, _, cells, es, _, rfl, hv.out, .inr ⟨rfl, rfl, rfl, rfl⟩, (Xw3.trans qXt)⟩
 ·
  obtain ⟨m, hm7, hm8⟩ := hmx.out (by trivial)
  have hwm : IntKind.i64.wrap (m : Int) = (m : Int) := IntWalk.i64_in _ (by omega)
  replace hm7 := Lib.hid hm7
  clear hmx
  go_enter Try.func64, Try.ntmps64
  go_wp2_with fail
  refine (pbx_eq hX.out (done_2 cells es _ _ ns _ _ _ _ (h1.ext qXt) (h2.ext qXt) _ (h3.ext qXt) (by omega))).mono ?_
  rintro e w1 ⟨cvfb5, evfb5, R6, rfl, bf4, xw1⟩
  have Lw1 : Ext w w1 := Ext.trans qXt xw1
  have Xw1 : Ext w w1 := Lw1
  have b10 : w1.cell? ⟨w.heap.size, 0, none⟩ = some (.slice p0 cells.length c0) := xw1.cell qCl
  have b11 : w1.cell? ⟨w.heap.size, 1, none⟩ = some (.slice p1 es.length c1) := xw1.cell qCl
  have b20 : w1.cell? ⟨w.heap.size + 1, 0, none⟩ = some (.int .i64 2) := xw1.cell qCl
  have b21 : w1.cell? ⟨w.heap.size + 1, 1, none⟩ = some (.slice pn ns.length cn) := xw1.cell qCl
  have b30 : w1.cell? ⟨w.heap.size + 1 + 1, 0, none⟩ = some (.slice none 0 0) := xw1.cell qCl
  have b31 : w1.cell? ⟨w.heap.size + 1 + 1, 1, none⟩ = some (.slice none 0 0) := xw1.cell qCl
  have f_b30 : w1.frozen? ⟨w.heap.size + 1 + 1, 0, none⟩ = false := xw1.frz (by simp <;> omega) qFz
  have f_b31 : w1.frozen? ⟨w.heap.size + 1 + 1, 1, none⟩ = false := xw1.frz (by simp <;> omega) qFz
  have z_b1 : w.heap.size < w1.heap.size := qB b10
  have z_b2 : w.heap.size + 1 < w1.heap.size := qB b20
  have z_b3 : w.heap.size + 1 + 1 < w1.heap.size := qB b30
  have s_w1 : w.heap.size ≤ w1.heap.size := Xw1.size
  clear xw1
  replace bf4 := bf4.lower (lo' := w.heap.size + 1 + 1 + 1) qSo
  obtain ⟨afb5, cfb5, rfl⟩ := bf4.ints.form
  obtain ⟨efb5, dfb5, hEfb5⟩ := bf4.exps.form
  rw [hm7.out] at hEfb5
  subst hEfb5
  have q_bf4 := Lib.hid bf4.at
  go_upto_region 2 with fail
  generalize hW7 : w1.alloc (.cells #[.slice afb5 C2.length cfb5, .slice efb5 (m + 1) dfb5] 26) = w2 at *
  have Lw2 : Ext w1 w2 := by subst hW7; exact qXt
  have Xw2 : Ext w w2 := Xw1.trans Lw2
  replace b10 := Lw2.cell b10
  replace b11 := Lw2.cell b11
  replace b20 := Lw2.cell b20
  replace b21 := Lw2.cell b21
  replace b30 := Lw2.cell b30
  replace b31 := Lw2.cell b31
  replace f_b30 := Lw2.frz z_b3 f_b30
  replace f_b31 := Lw2.frz z_b3 f_b31
  have b70 : w2.cell? ⟨w1.heap.size, 0, none⟩ = some (.slice afb5 C2.length cfb5) := by subst hW7; exact qCl
  have b71 : w2.cell? ⟨w1.heap.size, 1, none⟩ = some (.slice efb5 (m + 1) dfb5) := by subst hW7; exact qCl
  have z_b1 : w.heap.size < w2.heap.size := qB b10
  have z_b2 : w.heap.size + 1 < w2.heap.size := qB b20
  have z_b3 : w.heap.size + 1 + 1 < w2.heap.size := qB b30
  have z_b7 : w1.heap.size < w2.heap.size := qB b70
  replace bf4 := bf4.ext Lw2
  have s_w2 : w.heap.size ≤ w2.heap.size := Xw2.size
  clear hW7
  go_wp2_with fail
  refine wp_region_held_drew (S := fun w' => w'.cell? ⟨w1.heap.size, 0, none⟩ = some (.slice afb5 C2.length cfb5) ∧ w'.cell? ⟨w1.heap.size, 1, none⟩ = some (.slice efb5 (m + 1) dfb5)) qKr ⟨b70, b71⟩ (fun hHeld => ?_)
  refine qHk (v := ?_) 0 rfl (.inl ⟨by rfl, ?_⟩) ?_
  rotate_left
  ·
   (intro w hSw; (try dsimp only at hSw); go_simp; try with_reducible rfl)
  try simp only [Act.put, qa, qb, qc, qD, qE, qF]
  refine qHk (v := ?_) 1 rfl (.inl ⟨by rfl, ?_⟩) ?_
  rotate_left
  ·
   (intro w hSw; (try dsimp only at hSw); go_simp; try with_reducible rfl)
  try simp only [Act.put, qa, qb, qc, qD, qE, qF]
  refine qHk (v := ?_) 2 rfl (.inl ⟨by rfl, ?_⟩) ?_
  rotate_left
  ·
   (intro w hSw; (try dsimp only at hSw); go_simp; try with_reducible rfl)
  try simp only [Act.put, qa, qb, qc, qD, qE, qF]
  refine qHk (v := ?_) 3 rfl (.inl ⟨by rfl, ?_⟩) ?_
  rotate_left
  ·
   (intro w hSw; (try dsimp only at hSw); go_simp; try with_reducible rfl)
  try simp only [Act.put, qa, qb, qc, qD, qE, qF]
  have hw8 : IntKind.i64.wrap (((m + 1) : Int) - 1) = ((m + 1) : Int) - 1 := IntWalk.i64_in _ (by omega)
  refine qHk (v := ?_) 4 rfl (.inl ⟨by rfl, ?_⟩) ?_
  rotate_left
  ·
   (intro w hSw; (try dsimp only at hSw); go_simp; try with_reducible rfl)
  try simp only [Act.put, qa, qb, qc, qD, qE, qF]
  refine qHr 5 rfl (fun K hK => ?_)
  try simp only [Act.put, qa, qb, qc, qD, qE, qF]
  go_simp
  refine (num1_c m (by omega) _).mono ?_
  rintro e w3 ⟨tx9, rfl, hz_tx9, xw3⟩
  have Lw3 : Ext w2 w3 := Ext.trans qXt xw3
  have Xw3 : Ext w w3 := Xw2.trans Lw3
  replace b10 := Lw3.cell b10
  replace b11 := Lw3.cell b11
  replace b20 := Lw3.cell b20
  replace b21 := Lw3.cell b21
  replace b30 := Lw3.cell b30
  replace b31 := Lw3.cell b31
  replace f_b30 := Lw3.frz z_b3 f_b30
  replace f_b31 := Lw3.frz z_b3 f_b31
  replace b70 := Lw3.cell b70
  replace b71 := Lw3.cell b71
  have z_b1 : w.heap.size < w3.heap.size := qB b10
  have z_b2 : w.heap.size + 1 < w3.heap.size := qB b20
  have z_b3 : w.heap.size + 1 + 1 < w3.heap.size := qB b30
  have z_b7 : w1.heap.size < w3.heap.size := qB b70
  replace bf4 := bf4.ext Lw3
  have s_w3 : w.heap.size ≤ w3.heap.size := Xw3.size
  clear xw3
  have hy_tx9 : (tx9.size : Int) ≤ 8388608 := by omega
  have hv_tx9 : ¬ 9223372036854775807 < 3 + tx9.size := by omega
  refine hK.out _ _ ⟨b70, b71⟩ (fun hHeld => ?_)
  clear hK K
  try simp only [Act.put, qa, qb, qc, qD, qE, qF]
  refine qHk (v := ?_) 6 rfl (.inl ⟨by rfl, ?_⟩) ?_
  rotate_left
  ·
   (intro w hSw; (try dsimp only at hSw); go_simp; try with_reducible rfl)
  try simp only [Act.put, qa, qb, qc, qD, qE, qF]
  refine qHr 7 rfl (fun K hK => ?_)
  try simp only [Act.put, qa, qb, qc, qD, qE, qF]
  go_simp
  generalize hW8 : ((w3.setCell ⟨w.heap.size + 1 + 1, 0, none⟩ (.slice afb5 C2.length cfb5)).setCell ⟨w.heap.size + 1 + 1, 1, none⟩ (.slice efb5 (m + 1) dfb5)) = w4 at *
  have Kw4 : Chg (w.heap.size + 1 + 1) (w.heap.size + 1 + 1 + 1) w3 w4 := by subst hW8; exact qCh
  have Xw4 : Ext w w4 := by subst hW8; exact qXt
  replace b10 := Kw4.cell (by omega) b10
  replace b11 := Kw4.cell (by omega) b11
  replace b20 := Kw4.cell (by omega) b20
  replace b21 := Kw4.cell (by omega) b21
  replace b30 : w4.cell? ⟨w.heap.size + 1 + 1, 0, none⟩ = some (.slice afb5 C2.length cfb5) := by subst hW8; go_simp
  replace f_b30 : w4.frozen? ⟨w.heap.size + 1 + 1, 0, none⟩ = false := by subst hW8; first | (simp only [World.frozen?_setCell]; with_reducible assumption) | go_simp
  replace b31 : w4.cell? ⟨w.heap.size + 1 + 1, 1, none⟩ = some (.slice efb5 (m + 1) dfb5) := by subst hW8; go_simp
  replace f_b31 : w4.frozen? ⟨w.heap.size + 1 + 1, 1, none⟩ = false := by subst hW8; first | (simp only [World.frozen?_setCell]; with_reducible assumption) | go_simp
  replace b70 := Kw4.cell (by omega) b70
  replace b71 := Kw4.cell (by omega) b71
  replace bf4 := bf4.chg Kw4 (by omega)
  clear Kw4
  have z_b1 : w.heap.size < w4.heap.size := qB b10
  have z_b2 : w.heap.size + 1 < w4.heap.size := qB b20
  have z_b3 : w.heap.size + 1 + 1 < w4.heap.size := qB b30
  have z_b7 : w1.heap.size < w4.heap.size := qB b70
  have s_w4 : w.heap.size ≤ w4.heap.size := Xw4.size
  clear hW8
  refine hK.out _ _ ⟨b70, b71⟩ (fun hHeld => ?_)
  clear hK K
  try simp only [Act.put, qa, qb, qc, qD, qE, qF]
  refine qHk (v := ?_) 8 rfl (.inl ⟨by rfl, ?_⟩) ?_
  rotate_left
  ·
   (intro w hSw; (try dsimp only at hSw); go_simp; try with_reducible rfl)
  try simp only [Act.put, qa, qb, qc, qD, qE, qF]
  refine wpAnyH_done qKr ?_ _
  clear hHeld hw8
  go_wp2_with fail
  refine bodyPost_ret (v := .tuple #[.agg #[.slice afb5 C2.length cfb5, .slice efb5 (m + 1) dfb5], .string (({ data := #[97, 116, 32] } : ByteArray) ++ tx9)]) (by simp only [results, Try.results64]; go_simp) rfl ?_
  exact ⟨_, _, C2, E2, _, rfl, (hok.out (by trivial)), .inl ⟨_, (bf4.ext qXt).lower (by omega)⟩, (Xw4.trans qXt)⟩

set_option maxHeartbeats 6400000 in
theorem apply_3 (cells : List Int) (es : List Exp) (cv ev : Value) (ns : List Int) (nv : Value) (w : World) (l1 l2 : Nat) (h1 : Ints w l1 cv cells) (h2 : Exps w l2 ev es) (hv : bufB cells es = true) (l3 : Nat) (h3 : Ints w l3 nv ns) (hl : 1 ≤ ns.length) :
  Calls Try.prog 64 #[.agg #[cv, ev], .agg #[.int .i64 3, nv]] w (PApp cv ev cells es w) := by
 obtain ⟨p0, c0, rfl⟩ := h1.form
 obtain ⟨p1, c1, rfl⟩ := h2.form
 have he1 := h2.len
 have hc1 := h1.len
 obtain ⟨pn, cn, rfl⟩ := h3.form
 have hl0 : 0 < ns.length := by omega
 replace hv := Lib.hid hv
 obtain ⟨C2, E2, O2, hX⟩ : ∃ C2 E2 O2, parA cells es (ns.getD 0 0) 0 0 0 (-1) false false = (C2, E2, O2) := ⟨_, _, _, rfl⟩
 have hok : O2 = true → bufB C2 E2 = true := fun ho => by have h7 := parA_valid (h := (show (parA cells es (ns.getD 0 0) 0 0 0 (-1) false false).2.2 = true by rw [hX]; exact ho)); rw [hX] at h7; exact h7
 replace hok := Lib.hid hok
 have hmx : O2 = true → ∃ m, E2.length = m + 1 ∧ m < 10 := fun ho => parA_more (by rw [hX, ho])
 replace hX := Lib.hid hX
 replace hmx := Lib.hid hmx
 cases O2
 ·
  go_enter Try.func64, Try.ntmps64
  go_wp2_with fail
  refine (pbx_eq hX.out (done_3 cells es _ _ ns _ _ _ _ (h1.ext qXt) (h2.ext qXt) _ (h3.ext qXt) (by omega))).mono ?_
  rintro e w1 ⟨cvfb5, evfb5, R6, rfl, bf4, xw1⟩
  have Lw1 : Ext w w1 := Ext.trans qXt xw1
  have Xw1 : Ext w w1 := Lw1
  have b10 : w1.cell? ⟨w.heap.size, 0, none⟩ = some (.slice p0 cells.length c0) := xw1.cell qCl
  have b11 : w1.cell? ⟨w.heap.size, 1, none⟩ = some (.slice p1 es.length c1) := xw1.cell qCl
  have b20 : w1.cell? ⟨w.heap.size + 1, 0, none⟩ = some (.int .i64 3) := xw1.cell qCl
  have b21 : w1.cell? ⟨w.heap.size + 1, 1, none⟩ = some (.slice pn ns.length cn) := xw1.cell qCl
  have b30 : w1.cell? ⟨w.heap.size + 1 + 1, 0, none⟩ = some (.slice none 0 0) := xw1.cell qCl
  have b31 : w1.cell? ⟨w.heap.size + 1 + 1, 1, none⟩ = some (.slice none 0 0) := xw1.cell qCl
  have f_b30 : w1.frozen? ⟨w.heap.size + 1 + 1, 0, none⟩ = false := xw1.frz (by simp <;> omega) qFz
  have f_b31 : w1.frozen? ⟨w.heap.size + 1 + 1, 1, none⟩ = false := xw1.frz (by simp <;> omega) qFz
  have z_b1 : w.heap.size < w1.heap.size := qB b10
  have z_b2 : w.heap.size + 1 < w1.heap.size := qB b20
  have z_b3 : w.heap.size + 1 + 1 < w1.heap.size := qB b30
  have s_w1 : w.heap.size ≤ w1.heap.size := Xw1.size
  clear xw1
  replace bf4 := bf4.lower (lo' := w.heap.size + 1 + 1 + 1) qSo
  obtain ⟨afb5, cfb5, rfl⟩ := bf4.ints.form
  obtain ⟨efb5, dfb5, rfl⟩ := bf4.exps.form
  have q_bf4 := Lib.hid bf4.at
  go_upto_region 2 with fail
  generalize hW9 : w1.alloc (.cells #[.slice afb5 C2.length cfb5, .slice efb5 E2.length dfb5] 26) = w2 at *
  have Lw2 : Ext w1 w2 := by subst hW9; exact qXt
  have Xw2 : Ext w w2 := Xw1.trans Lw2
  replace b10 := Lw2.cell b10
  replace b11 := Lw2.cell b11
  replace b20 := Lw2.cell b20
  replace b21 := Lw2.cell b21
  replace b30 := Lw2.cell b30
  replace b31 := Lw2.cell b31
  replace f_b30 := Lw2.frz z_b3 f_b30
  replace f_b31 := Lw2.frz z_b3 f_b31
  have b70 : w2.cell? ⟨w1.heap.size, 0, none⟩ = some (.slice afb5 C2.length cfb5) := by subst hW9; exact qCl
  have b71 : w2.cell? ⟨w1.heap.size, 1, none⟩ = some (.slice efb5 E2.length dfb5) := by subst hW9; exact qCl
  have z_b1 : w.heap.size < w2.heap.size := qB b10
  have z_b2 : w.heap.size + 1 < w2.heap.size := qB b20
  have z_b3 : w.heap.size + 1 + 1 < w2.heap.size := qB b30
  have z_b7 : w1.heap.size < w2.heap.size := qB b70
  replace bf4 := bf4.ext Lw2
  have s_w2 : w.heap.size ≤ w2.heap.size := Xw2.size
  clear hW9
  go_wp2_with fail
  generalize hW10 : ((w2.setCell ⟨w.heap.size + 1 + 1, 0, none⟩ (.slice p0 cells.length c0)).setCell ⟨w.heap.size + 1 + 1, 1, none⟩ (.slice p1 es.length c1)) = w3 at *
  have Kw3 : Chg (w.heap.size + 1 + 1) (w.heap.size + 1 + 1 + 1) w2 w3 := by subst hW10; exact qCh
  have Xw3 : Ext w w3 := by subst hW10; exact qXt
  replace b10 := Kw3.cell (by omega) b10
  replace b11 := Kw3.cell (by omega) b11
  replace b20 := Kw3.cell (by omega) b20
  replace b21 := Kw3.cell (by omega) b21
  replace b30 : w3.cell? ⟨w.heap.size + 1 + 1, 0, none⟩ = some (.slice p0 cells.length c0) := by subst hW10; go_simp
  replace f_b30 : w3.frozen? ⟨w.heap.size + 1 + 1, 0, none⟩ = false := by subst hW10; first | (simp only [World.frozen?_setCell]; with_reducible assumption) | go_simp
  replace b31 : w3.cell? ⟨w.heap.size + 1 + 1, 1, none⟩ = some (.slice p1 es.length c1) := by subst hW10; go_simp
  replace f_b31 : w3.frozen? ⟨w.heap.size + 1 + 1, 1, none⟩ = false := by subst hW10; first | (simp only [World.frozen?_setCell]; with_reducible assumption) | go_simp
  replace b70 := Kw3.cell (by omega) b70
  replace b71 := Kw3.cell (by omega) b71
  replace bf4 := bf4.chg Kw3 (by omega)
  clear Kw3
  have z_b1 : w.heap.size < w3.heap.size := qB b10
  have z_b2 : w.heap.size + 1 < w3.heap.size := qB b20
  have z_b3 : w.heap.size + 1 + 1 < w3.heap.size := qB b30
  have z_b7 : w1.heap.size < w3.heap.size := qB b70
  have s_w3 : w.heap.size ≤ w3.heap.size := Xw3.size
  clear hW10
  refine bodyPost_ret (v := .tuple #[.agg #[.slice p0 cells.length c0, .slice p1 es.length c1], Value.string { data := #[110, 111] }]) (by simp only [results, Try.results64]; go_simp) rfl ?_
  exact ⟨_, _, cells, es, _, rfl, hv.out, .inr ⟨rfl, rfl, rfl, rfl⟩, (Xw3.trans qXt)⟩
 ·
  obtain ⟨m, hm7, hm8⟩ := hmx.out (by trivial)
  have hwm : IntKind.i64.wrap (m : Int) = (m : Int) := IntWalk.i64_in _ (by omega)
  replace hm7 := Lib.hid hm7
  clear hmx
  go_enter Try.func64, Try.ntmps64
  go_wp2_with fail
  refine (pbx_eq hX.out (done_3 cells es _ _ ns _ _ _ _ (h1.ext qXt) (h2.ext qXt) _ (h3.ext qXt) (by omega))).mono ?_
  rintro e w1 ⟨cvfb5, evfb5, R6, rfl, bf4, xw1⟩
  have Lw1 : Ext w w1 := Ext.trans qXt xw1
  have Xw1 : Ext w w1 := Lw1
  have b10 : w1.cell? ⟨w.heap.size, 0, none⟩ = some (.slice p0 cells.length c0) := xw1.cell qCl
  have b11 : w1.cell? ⟨w.heap.size, 1, none⟩ = some (.slice p1 es.length c1) := xw1.cell qCl
  have b20 : w1.cell? ⟨w.heap.size + 1, 0, none⟩ = some (.int .i64 3) := xw1.cell qCl
  have b21 : w1.cell? ⟨w.heap.size + 1, 1, none⟩ = some (.slice pn ns.length cn) := xw1.cell qCl
  have b30 : w1.cell? ⟨w.heap.size + 1 + 1, 0, none⟩ = some (.slice none 0 0) := xw1.cell qCl
  have b31 : w1.cell? ⟨w.heap.size + 1 + 1, 1, none⟩ = some (.slice none 0 0) := xw1.cell qCl
  have f_b30 : w1.frozen? ⟨w.heap.size + 1 + 1, 0, none⟩ = false := xw1.frz (by simp <;> omega) qFz
  have f_b31 : w1.frozen? ⟨w.heap.size + 1 + 1, 1, none⟩ = false := xw1.frz (by simp <;> omega) qFz
  have z_b1 : w.heap.size < w1.heap.size := qB b10
  have z_b2 : w.heap.size + 1 < w1.heap.size := qB b20
  have z_b3 : w.heap.size + 1 + 1 < w1.heap.size := qB b30
  have s_w1 : w.heap.size ≤ w1.heap.size := Xw1.size
  clear xw1
  replace bf4 := bf4.lower (lo' := w.heap.size + 1 + 1 + 1) qSo
  obtain ⟨afb5, cfb5, rfl⟩ := bf4.ints.form
  obtain ⟨efb5, dfb5, hEfb5⟩ := bf4.exps.form
  rw [hm7.out] at hEfb5
  subst hEfb5
  have q_bf4 := Lib.hid bf4.at
  go_upto_region 2 with fail
  generalize hW11 : w1.alloc (.cells #[.slice afb5 C2.length cfb5, .slice efb5 (m + 1) dfb5] 26) = w2 at *
  have Lw2 : Ext w1 w2 := by subst hW11; exact qXt
  have Xw2 : Ext w w2 := Xw1.trans Lw2
  replace b10 := Lw2.cell b10
  replace b11 := Lw2.cell b11
  replace b20 := Lw2.cell b20
  replace b21 := Lw2.cell b21
  replace b30 := Lw2.cell b30
  replace b31 := Lw2.cell b31
  replace f_b30 := Lw2.frz z_b3 f_b30
  replace f_b31 := Lw2.frz z_b3 f_b31
  have b70 : w2.cell? ⟨w1.heap.size, 0, none⟩ = some (.slice afb5 C2.length cfb5) := by subst hW11; exact qCl
  have b71 : w2.cell? ⟨w1.heap.size, 1, none⟩ = some (.slice efb5 (m + 1) dfb5) := by subst hW11; exact qCl
  have z_b1 : w.heap.size < w2.heap.size := qB b10
  have z_b2 : w.heap.size + 1 < w2.heap.size := qB b20
  have z_b3 : w.heap.size + 1 + 1 < w2.heap.size := qB b30
  have z_b7 : w1.heap.size < w2.heap.size := qB b70
  replace bf4 := bf4.ext Lw2
  have s_w2 : w.heap.size ≤ w2.heap.size := Xw2.size
  clear hW11
  go_wp2_with fail
  refine wp_region_held_drew (S := fun w' => w'.cell? ⟨w1.heap.size, 0, none⟩ = some (.slice afb5 C2.length cfb5) ∧ w'.cell? ⟨w1.heap.size, 1, none⟩ = some (.slice efb5 (m + 1) dfb5)) qKr ⟨b70, b71⟩ (fun hHeld => ?_)
  refine qHk (v := ?_) 0 rfl (.inl ⟨by rfl, ?_⟩) ?_
  rotate_left
  ·
   (intro w hSw; (try dsimp only at hSw); go_simp; try with_reducible rfl)
  try simp only [Act.put, qa, qb, qc, qD, qE, qF]
  refine qHk (v := ?_) 1 rfl (.inl ⟨by rfl, ?_⟩) ?_
  rotate_left
  ·
   (intro w hSw; (try dsimp only at hSw); go_simp; try with_reducible rfl)
  try simp only [Act.put, qa, qb, qc, qD, qE, qF]
  refine qHk (v := ?_) 2 rfl (.inl ⟨by rfl, ?_⟩) ?_
  rotate_left
  ·
   (intro w hSw; (try dsimp only at hSw); go_simp; try with_reducible rfl)
  try simp only [Act.put, qa, qb, qc, qD, qE, qF]
  refine qHk (v := ?_) 3 rfl (.inl ⟨by rfl, ?_⟩) ?_
  rotate_left
  ·
   (intro w hSw; (try dsimp only at hSw); go_simp; try with_reducible rfl)
  try simp only [Act.put, qa, qb, qc, qD, qE, qF]
  have hw8 : IntKind.i64.wrap (((m + 1) : Int) - 1) = ((m + 1) : Int) - 1 := IntWalk.i64_in _ (by omega)
  refine qHk (v := ?_) 4 rfl (.inl ⟨by rfl, ?_⟩) ?_
  rotate_left
  ·
   (intro w hSw; (try dsimp only at hSw); go_simp; try with_reducible rfl)
  try simp only [Act.put, qa, qb, qc, qD, qE, qF]
  refine qHr 5 rfl (fun K hK => ?_)
  try simp only [Act.put, qa, qb, qc, qD, qE, qF]
  go_simp
  refine (num1_c m (by omega) _).mono ?_
  rintro e w3 ⟨tx9, rfl, hz_tx9, xw3⟩
  have Lw3 : Ext w2 w3 := Ext.trans qXt xw3
  have Xw3 : Ext w w3 := Xw2.trans Lw3
  replace b10 := Lw3.cell b10
  replace b11 := Lw3.cell b11
  replace b20 := Lw3.cell b20
  replace b21 := Lw3.cell b21
  replace b30 := Lw3.cell b30
  replace b31 := Lw3.cell b31
  replace f_b30 := Lw3.frz z_b3 f_b30
  replace f_b31 := Lw3.frz z_b3 f_b31
  replace b70 := Lw3.cell b70
  replace b71 := Lw3.cell b71
  have z_b1 : w.heap.size < w3.heap.size := qB b10
  have z_b2 : w.heap.size + 1 < w3.heap.size := qB b20
  have z_b3 : w.heap.size + 1 + 1 < w3.heap.size := qB b30
  have z_b7 : w1.heap.size < w3.heap.size := qB b70
  replace bf4 := bf4.ext Lw3
  have s_w3 : w.heap.size ≤ w3.heap.size := Xw3.size
  clear xw3
  have hy_tx9 : (tx9.size : Int) ≤ 8388608 := by omega
  have hv_tx9 : ¬ 9223372036854775807 < 3 + tx9.size := by omega
  refine hK.out _ _ ⟨b70, b71⟩ (fun hHeld => ?_)
  clear hK K
  try simp only [Act.put, qa, qb, qc, qD, qE, qF]
  refine qHk (v := ?_) 6 rfl (.inl ⟨by rfl, ?_⟩) ?_
  rotate_left
  ·
   (intro w hSw; (try dsimp only at hSw); go_simp; try with_reducible rfl)
  try simp only [Act.put, qa, qb, qc, qD, qE, qF]
  refine qHr 7 rfl (fun K hK => ?_)
  try simp only [Act.put, qa, qb, qc, qD, qE, qF]
  go_simp
  generalize hW12 : ((w3.setCell ⟨w.heap.size + 1 + 1, 0, none⟩ (.slice afb5 C2.length cfb5)).setCell ⟨w.heap.size + 1 + 1, 1, none⟩ (.slice efb5 (m + 1) dfb5)) = w4 at *
  have Kw4 : Chg (w.heap.size + 1 + 1) (w.heap.size + 1 + 1 + 1) w3 w4 := by subst hW12; exact qCh
  have Xw4 : Ext w w4 := by subst hW12; exact qXt
  replace b10 := Kw4.cell (by omega) b10
  replace b11 := Kw4.cell (by omega) b11
  replace b20 := Kw4.cell (by omega) b20
  replace b21 := Kw4.cell (by omega) b21
  replace b30 : w4.cell? ⟨w.heap.size + 1 + 1, 0, none⟩ = some (.slice afb5 C2.length cfb5) := by subst hW12; go_simp
  replace f_b30 : w4.frozen? ⟨w.heap.size + 1 + 1, 0, none⟩ = false := by subst hW12; first | (simp only [World.frozen?_setCell]; with_reducible assumption) | go_simp
  replace b31 : w4.cell? ⟨w.heap.size + 1 + 1, 1, none⟩ = some (.slice efb5 (m + 1) dfb5) := by subst hW12; go_simp
  replace f_b31 : w4.frozen? ⟨w.heap.size + 1 + 1, 1, none⟩ = false := by subst hW12; first | (simp only [World.frozen?_setCell]; with_reducible assumption) | go_simp
  replace b70 := Kw4.cell (by omega) b70
  replace b71 := Kw4.cell (by omega) b71
  replace bf4 := bf4.chg Kw4 (by omega)
  clear Kw4
  have z_b1 : w.heap.size < w4.heap.size := qB b10
  have z_b2 : w.heap.size + 1 < w4.heap.size := qB b20
  have z_b3 : w.heap.size + 1 + 1 < w4.heap.size := qB b30
  have z_b7 : w1.heap.size < w4.heap.size := qB b70
  have s_w4 : w.heap.size ≤ w4.heap.size := Xw4.size
  clear hW12
  refine hK.out _ _ ⟨b70, b71⟩ (fun hHeld => ?_)
  clear hK K
  try simp only [Act.put, qa, qb, qc, qD, qE, qF]
  refine qHk (v := ?_) 8 rfl (.inl ⟨by rfl, ?_⟩) ?_
  rotate_left
  ·
   (intro w hSw; (try dsimp only at hSw); go_simp; try with_reducible rfl)
  try simp only [Act.put, qa, qb, qc, qD, qE, qF]
  refine wpAnyH_done qKr ?_ _
  clear hHeld hw8
  go_wp2_with fail
  refine bodyPost_ret (v := .tuple #[.agg #[.slice afb5 C2.length cfb5, .slice efb5 (m + 1) dfb5], .string (({ data := #[97, 116, 32] } : ByteArray) ++ tx9)]) (by simp only [results, Try.results64]; go_simp) rfl ?_
  exact ⟨_, _, C2, E2, _, rfl, (hok.out (by trivial)), .inl ⟨_, (bf4.ext qXt).lower (by omega)⟩, (Xw4.trans qXt)⟩


end Go.Proofs.Ytgklaobfikbiiaa

/- Walks: acts of the reference, with answers. -/
namespace Go.Proofs.Ytgklaobfikbiiaa
open Go.RowKit
set_option linter.unusedVariables false
set_option maxRecDepth 100000

set_option maxHeartbeats 6400000 in
theorem apply_6 (cells : List Int) (es : List Exp) (cv ev : Value) (ns : List Int) (nv : Value) (w : World) (l1 l2 : Nat) (h1 : Ints w l1 cv cells) (h2 : Exps w l2 ev es) (hv : bufB cells es = true) (l3 : Nat) (h3 : Ints w l3 nv ns) (hl : 1 ≤ ns.length) :
  Calls Try.prog 64 #[.agg #[cv, ev], .agg #[.int .i64 6, nv]] w (PApp cv ev cells es w) := by
 obtain ⟨p0, c0, rfl⟩ := h1.form
 obtain ⟨p1, c1, rfl⟩ := h2.form
 have he1 := h2.len
 have hc1 := h1.len
 obtain ⟨pn, cn, rfl⟩ := h3.form
 have hl0 : 0 < ns.length := by omega
 replace hv := Lib.hid hv
 obtain ⟨O2, hX⟩ : ∃ O2, opB es (ns.getD 0 0) = O2 := ⟨_, rfl⟩
 replace hX := Lib.hid hX
 cases O2
 ·
  go_enter Try.func64, Try.ntmps64
  go_wp2_with fail
  refine (done_6 cells es _ _ ns _ _ _ _ (h1.ext qXt) (h2.ext qXt) _ (h3.ext qXt) hl).mono ?_
  rintro e w1 ⟨rfl, xw1⟩
  have Lw1 : Ext w w1 := Ext.trans qXt xw1
  have Xw1 : Ext w w1 := Lw1
  have b10 : w1.cell? ⟨w.heap.size, 0, none⟩ = some (.slice p0 cells.length c0) := xw1.cell qCl
  have b11 : w1.cell? ⟨w.heap.size, 1, none⟩ = some (.slice p1 es.length c1) := xw1.cell qCl
  have b20 : w1.cell? ⟨w.heap.size + 1, 0, none⟩ = some (.int .i64 6) := xw1.cell qCl
  have b21 : w1.cell? ⟨w.heap.size + 1, 1, none⟩ = some (.slice pn ns.length cn) := xw1.cell qCl
  have b30 : w1.cell? ⟨w.heap.size + 1 + 1, 0, none⟩ = some (.slice none 0 0) := xw1.cell qCl
  have b31 : w1.cell? ⟨w.heap.size + 1 + 1, 1, none⟩ = some (.slice none 0 0) := xw1.cell qCl
  have f_b30 : w1.frozen? ⟨w.heap.size + 1 + 1, 0, none⟩ = false := xw1.frz (by simp <;> omega) qFz
  have f_b31 : w1.frozen? ⟨w.heap.size + 1 + 1, 1, none⟩ = false := xw1.frz (by simp <;> omega) qFz
  have z_b1 : w.heap.size < w1.heap.size := qB b10
  have z_b2 : w.heap.size + 1 < w1.heap.size := qB b20
  have z_b3 : w.heap.size + 1 + 1 < w1.heap.size := qB b30
  have s_w1 : w.heap.size ≤ w1.heap.size := Xw1.size
  clear xw1
  rw [hX.out]
  go_upto_region 2 with fail
  generalize hW1 : w1.alloc (.cells #[.slice p0 cells.length c0, .slice p1 es.length c1] 26) = w2 at *
  have Lw2 : Ext w1 w2 := by subst hW1; exact qXt
  have Xw2 : Ext w w2 := Xw1.trans Lw2
  replace b10 := Lw2.cell b10
  replace b11 := Lw2.cell b11
  replace b20 := Lw2.cell b20
  replace b21 := Lw2.cell b21
  replace b30 := Lw2.cell b30
  replace b31 := Lw2.cell b31
  replace f_b30 := Lw2.frz z_b3 f_b30
  replace f_b31 := Lw2.frz z_b3 f_b31
  have b40 : w2.cell? ⟨w1.heap.size, 0, none⟩ = some (.slice p0 cells.length c0) := by subst hW1; exact qCl
  have b41 : w2.cell? ⟨w1.heap.size, 1, none⟩ = some (.slice p1 es.length c1) := by subst hW1; exact qCl
  have z_b1 : w.heap.size < w2.heap.size := qB b10
  have z_b2 : w.heap.size + 1 < w2.heap.size := qB b20
  have z_b3 : w.heap.size + 1 + 1 < w2.heap.size := qB b30
  have z_b4 : w1.heap.size < w2.heap.size := qB b40
  have s_w2 : w.heap.size ≤ w2.heap.size := Xw2.size
  clear hW1
  go_wp2_with fail
  generalize hW2 : ((w2.setCell ⟨w.heap.size + 1 + 1, 0, none⟩ (.slice p0 cells.length c0)).setCell ⟨w.heap.size + 1 + 1, 1, none⟩ (.slice p1 es.length c1)) = w3 at *
  have Kw3 : Chg (w.heap.size + 1 + 1) (w.heap.size + 1 + 1 + 1) w2 w3 := by subst hW2; exact qCh
  have Xw3 : Ext w w3 := by subst hW2; exact qXt
  replace b10 := Kw3.cell (by omega) b10
  replace b11 := Kw3.cell (by omega) b11
  replace b20 := Kw3.cell (by omega) b20
  replace b21 := Kw3.cell (by omega) b21
  replace b30 : w3.cell? ⟨w.heap.size + 1 + 1, 0, none⟩ = some (.slice p0 cells.length c0) := by subst hW2; go_simp
  replace f_b30 : w3.frozen? ⟨w.heap.size + 1 + 1, 0, none⟩ = false := by subst hW2; first | (simp only [World.frozen?_setCell]; with_reducible assumption) | go_simp
  replace b31 : w3.cell? ⟨w.heap.size + 1 + 1, 1, none⟩ = some (.slice p1 es.length c1) := by subst hW2; go_simp
  replace f_b31 : w3.frozen? ⟨w.heap.size + 1 + 1, 1, none⟩ = false := by subst hW2; first | (simp only [World.frozen?_setCell]; with_reducible assumption) | go_simp
  replace b40 := Kw3.cell (by omega) b40
  replace b41 := Kw3.cell (by omega) b41
  clear Kw3
  have z_b1 : w.heap.size < w3.heap.size := qB b10
  have z_b2 : w.heap.size + 1 < w3.heap.size := qB b20
  have z_b3 : w.heap.size + 1 + 1 < w3.heap.size := qB b30
  have z_b4 : w1.heap.size < w3.heap.size := qB b40
  have s_w3 : w.heap.size ≤ w3.heap.size := Xw3.size
  clear hW2
  refine bodyPost_ret (v := .tuple #[.agg #[.slice p0 cells.length c0, .slice p1 es.length c1], Value.string { data := #[110, 111] }]) (by simp only [results, Try.results64]; go_simp) rfl ?_
  exact ⟨_, _, cells, es, _, rfl, hv.out, .inr ⟨rfl, rfl, rfl, rfl⟩, (Xw3.trans qXt)⟩
 ·
  go_enter Try.func64, Try.ntmps64
  go_wp2_with fail
  refine (done_6 cells es _ _ ns _ _ _ _ (h1.ext qXt) (h2.ext qXt) _ (h3.ext qXt) hl).mono ?_
  rintro e w1 ⟨rfl, xw1⟩
  have Lw1 : Ext w w1 := Ext.trans qXt xw1
  have Xw1 : Ext w w1 := Lw1
  have b10 : w1.cell? ⟨w.heap.size, 0, none⟩ = some (.slice p0 cells.length c0) := xw1.cell qCl
  have b11 : w1.cell? ⟨w.heap.size, 1, none⟩ = some (.slice p1 es.length c1) := xw1.cell qCl
  have b20 : w1.cell? ⟨w.heap.size + 1, 0, none⟩ = some (.int .i64 6) := xw1.cell qCl
  have b21 : w1.cell? ⟨w.heap.size + 1, 1, none⟩ = some (.slice pn ns.length cn) := xw1.cell qCl
  have b30 : w1.cell? ⟨w.heap.size + 1 + 1, 0, none⟩ = some (.slice none 0 0) := xw1.cell qCl
  have b31 : w1.cell? ⟨w.heap.size + 1 + 1, 1, none⟩ = some (.slice none 0 0) := xw1.cell qCl
  have f_b30 : w1.frozen? ⟨w.heap.size + 1 + 1, 0, none⟩ = false := xw1.frz (by simp <;> omega) qFz
  have f_b31 : w1.frozen? ⟨w.heap.size + 1 + 1, 1, none⟩ = false := xw1.frz (by simp <;> omega) qFz
  have z_b1 : w.heap.size < w1.heap.size := qB b10
  have z_b2 : w.heap.size + 1 < w1.heap.size := qB b20
  have z_b3 : w.heap.size + 1 + 1 < w1.heap.size := qB b30
  have s_w1 : w.heap.size ≤ w1.heap.size := Xw1.size
  clear xw1
  rw [hX.out]
  go_upto_region 2 with fail
  generalize hW3 : w1.alloc (.cells #[.slice p0 cells.length c0, .slice p1 es.length c1] 26) = w2 at *
  have Lw2 : Ext w1 w2 := by subst hW3; exact qXt
  have Xw2 : Ext w w2 := Xw1.trans Lw2
  replace b10 := Lw2.cell b10
  replace b11 := Lw2.cell b11
  replace b20 := Lw2.cell b20
  replace b21 := Lw2.cell b21
  replace b30 := Lw2.cell b30
  replace b31 := Lw2.cell b31
  replace f_b30 := Lw2.frz z_b3 f_b30
  replace f_b31 := Lw2.frz z_b3 f_b31
  have b40 : w2.cell? ⟨w1.heap.size, 0, none⟩ = some (.slice p0 cells.length c0) := by subst hW3; exact qCl
  have b41 : w2.cell? ⟨w1.heap.size, 1, none⟩ = some (.slice p1 es.length c1) := by subst hW3; exact qCl
  have z_b1 : w.heap.size < w2.heap.size := qB b10
  have z_b2 : w.heap.size + 1 < w2.heap.size := qB b20
  have z_b3 : w.heap.size + 1 + 1 < w2.heap.size := qB b30
  have z_b4 : w1.heap.size < w2.heap.size := qB b40
  have s_w2 : w.heap.size ≤ w2.heap.size := Xw2.size
  clear hW3
  go_wp2_with fail
  have hI_e7 : (0 : Int) < (ns.length : Int) := by have hB7 : 0 < ns.length := (by omega); omega
  obtain ⟨bl5, ol6, rfl, e70⟩ := h3.at 0 (by omega)
  rw [Nat.add_zero] at e70
  have y_e7 : bl5 < w.heap.size := qB e70
  replace e70 := Xw2.cell e70
  obtain ⟨v8, hv8⟩ : ∃ v, ns.getD 0 0 = v := ⟨_, rfl⟩
  rw [hv8] at e70
  replace hv8 := Lib.hid hv8
  have z_e7 : bl5 < w2.heap.size := qB e70
  have hoq : opB es v8 = true := by rw [← hv8.out]; exact hX.out
  obtain ⟨hi0, hi1, hi2⟩ := opB_in hoq
  replace hoq := Lib.hid hoq
  obtain ⟨k, hkv⟩ : ∃ k : Nat, v8 = k := ⟨v8.toNat, by omega⟩
  subst hkv
  have hlt : k < es.length := by omega
  replace hi2 := Lib.hid hi2
  have hN_x9 : k < es.length := hlt
  have hI_x9 : (k : Int) < (es.length : Int) := by omega
  obtain ⟨bl22, ol23, u16, c17, u18, c19, rfl, x90, x91, x92, x93, x94, i20, i21⟩ := h2.at k hN_x9
  obtain ⟨X15, hX15⟩ : ∃ x, expAt es k = x := ⟨_, rfl⟩
  rw [hX15] at x90 x91 x92 x93 x94 i20 i21
  obtain ⟨P10, B11, S12, T13, O14⟩ := X15
  dsimp only at x90 x91 x92 x93 x94 i20 i21
  replace hX15 := Lib.hid hX15
  have hLS12 := i20.len
  have hLT13 := i21.len
  have y_x9 : bl22 < w.heap.size := qB x90
  replace x90 := Xw2.cell x90
  replace x91 := Xw2.cell x91
  replace x92 := Xw2.cell x92
  replace x93 := Xw2.cell x93
  replace x94 := Xw2.cell x94
  have z_x9 : bl22 < w2.heap.size := qB x90
  have hh7 : Hid (holdB cells B11 S12 T13 = true) := Lib.hid (by have h7 := open_holds hv.out hoq.out; rw [Int.toNat_natCast, hX15.out] at h7; exact h7)
  have hx7 : Hid (∀ x ∈ loadL cells B11 S12 T13, 0 ≤ x ∧ x ≤ 255) := Lib.hid (load_mem hh7.out)
  have hl7 : (loadL cells B11 S12 T13).length ≤ 60 := load_len hh7.out
  go_wp2_with fail
  refine wp_region_held_drew (S := fun w' => w'.cell? ⟨w.heap.size, 0, none⟩ = some (.slice p0 cells.length c0) ∧ w'.cell? ⟨w.heap.size, 1, none⟩ = some (.slice (some ⟨bl22, ol23, none⟩) es.length c1) ∧ w'.cell? ⟨w.heap.size + 1, 1, none⟩ = some (.slice (some ⟨bl5, ol6, none⟩) ns.length cn) ∧ w'.cell? ⟨bl5, ol6, none⟩ = some (.int .i64 (k : Int)) ∧ w'.cell? ⟨bl22, ol23 + k * 5 + 1, none⟩ = some (.int .i64 B11) ∧ w'.cell? ⟨bl22, ol23 + k * 5 + 2, none⟩ = some (.slice u16 S12.length c17) ∧ w'.cell? ⟨bl22, ol23 + k * 5 + 3, none⟩ = some (.slice u18 T13.length c19)) qKr ⟨b10, b11, b21, e70, x91, x92, x93⟩ (fun hHeld => ?_)
  refine qHk (v := ?_) 0 rfl (.inl ⟨by rfl, ?_⟩) ?_
  rotate_left
  ·
   (intro w hSw; (try dsimp only at hSw); go_simp; try with_reducible rfl)
  try simp only [Act.put, qa, qb, qc, qD, qE, qF]
  refine qHk (v := ?_) 1 rfl (.inl ⟨by rfl, ?_⟩) ?_
  rotate_left
  ·
   (intro w hSw; (try dsimp only at hSw); go_simp; try with_reducible rfl)
  try simp only [Act.put, qa, qb, qc, qD, qE, qF]
  refine qHk (v := ?_) 2 rfl (.inl ⟨by rfl, ?_⟩) ?_
  rotate_left
  ·
   (intro w hSw; (try dsimp only at hSw); go_simp; try with_reducible rfl)
  try simp only [Act.put, qa, qb, qc, qD, qE, qF]
  refine qHk (v := ?_) 3 rfl (.inl ⟨by rfl, ?_⟩) ?_
  rotate_left
  ·
   (intro w hSw; (try dsimp only at hSw); go_simp; try with_reducible rfl)
  try simp only [Act.put, qa, qb, qc, qD, qE, qF]
  refine qHk (v := ?_) 4 rfl (.inl ⟨by rfl, ?_⟩) ?_
  rotate_left
  ·
   (intro w hSw; (try dsimp only at hSw); go_simp; try with_reducible rfl)
  try simp only [Act.put, qa, qb, qc, qD, qE, qF]
  refine qHk (v := ?_) 5 rfl (.inl ⟨by rfl, ?_⟩) ?_
  rotate_left
  ·
   (intro w hSw; (try dsimp only at hSw); go_simp; try with_reducible rfl)
  try simp only [Act.put, qa, qb, qc, qD, qE, qF]
  refine qHk (v := ?_) 6 rfl (.inl ⟨by rfl, ?_⟩) ?_
  rotate_left
  ·
   (intro w hSw; (try dsimp only at hSw); go_simp; try with_reducible rfl)
  try simp only [Act.put, qa, qb, qc, qD, qE, qF]
  refine qHk (v := ?_) 7 rfl (.inl ⟨by rfl, ?_⟩) ?_
  rotate_left
  ·
   (intro w hSw; (try dsimp only at hSw); go_simp; try with_reducible rfl)
  try simp only [Act.put, qa, qb, qc, qD, qE, qF]
  refine qHk (v := ?_) 8 rfl (.inl ⟨by rfl, ?_⟩) ?_
  rotate_left
  ·
   (intro w hSw; (try dsimp only at hSw); go_simp; try with_reducible rfl)
  try simp only [Act.put, qa, qb, qc, qD, qE, qF]
  refine qHk (v := ?_) 9 rfl (.inl ⟨by rfl, ?_⟩) ?_
  rotate_left
  ·
   (intro w hSw; (try dsimp only at hSw); go_simp; try with_reducible rfl)
  try simp only [Act.put, qa, qb, qc, qD, qE, qF]
  refine qHk (v := ?_) 10 rfl (.inl ⟨by rfl, ?_⟩) ?_
  rotate_left
  ·
   (intro w hSw; (try dsimp only at hSw); go_simp; try with_reducible rfl)
  try simp only [Act.put, qa, qb, qc, qD, qE, qF]
  refine qHk (v := ?_) 11 rfl (.inl ⟨by rfl, ?_⟩) ?_
  rotate_left
  ·
   (intro w hSw; (try dsimp only at hSw); go_simp; try with_reducible rfl)
  try simp only [Act.put, qa, qb, qc, qD, qE, qF]
  refine qHr 12 rfl (fun K hK => ?_)
  try simp only [Act.put, qa, qb, qc, qD, qE, qF]
  go_simp
  refine (load_c cells (.slice p0 cells.length c0) B11 (.slice u16 S12.length c17) (.slice u18 T13.length c19) S12 T13 _ _ _ _ (h1.ext (Xw2.trans qXt)) (i20.ext (Xw2.trans qXt)) (i21.ext (Xw2.trans qXt)) hh7.out).mono ?_
  rintro e w3 ⟨fv30, rfl, i31, -, xw3⟩
  have Lw3 : Ext w2 w3 := Ext.trans qXt xw3
  have Xw3 : Ext w w3 := Xw2.trans Lw3
  replace b10 := Lw3.cell b10
  replace b11 := Lw3.cell b11
  replace b20 := Lw3.cell b20
  replace b21 := Lw3.cell b21
  replace b30 := Lw3.cell b30
  replace b31 := Lw3.cell b31
  replace f_b30 := Lw3.frz z_b3 f_b30
  replace f_b31 := Lw3.frz z_b3 f_b31
  replace b40 := Lw3.cell b40
  replace b41 := Lw3.cell b41
  replace e70 := Lw3.cell e70
  replace x90 := Lw3.cell x90
  replace x91 := Lw3.cell x91
  replace x92 := Lw3.cell x92
  replace x93 := Lw3.cell x93
  replace x94 := Lw3.cell x94
  have z_b1 : w.heap.size < w3.heap.size := qB b10
  have z_b2 : w.heap.size + 1 < w3.heap.size := qB b20
  have z_b3 : w.heap.size + 1 + 1 < w3.heap.size := qB b30
  have z_b4 : w1.heap.size < w3.heap.size := qB b40
  have z_e7 : bl5 < w3.heap.size := qB e70
  have z_x9 : bl22 < w3.heap.size := qB x90
  have s_w3 : w.heap.size ≤ w3.heap.size := Xw3.size
  clear xw3
  try simp only [World.size_alloc, World.size_drew] at i31
  obtain ⟨afv30, cfv30, rfl⟩ := i31.form
  refine hK.out _ _ ⟨b10, b11, b21, e70, x91, x92, x93⟩ (fun hHeld => ?_)
  clear hK K
  try simp only [Act.put, qa, qb, qc, qD, qE, qF]
  refine qHr 13 rfl (fun K hK => ?_)
  try simp only [Act.put, qa, qb, qc, qD, qE, qF]
  go_simp
  refine (numbersText_c (loadL cells B11 S12 T13) (.slice afv30 ((loadL cells B11 S12 T13).length) cfv30) _ _ (i31.ext qXt) hx7.out (by omega)).mono ?_
  rintro e w4 ⟨tx32, rfl, hz_tx32, xw4⟩
  have Lw4 : Ext w3 w4 := Ext.trans qXt xw4
  have Xw4 : Ext w w4 := Xw3.trans Lw4
  replace b10 := Lw4.cell b10
  replace b11 := Lw4.cell b11
  replace b20 := Lw4.cell b20
  replace b21 := Lw4.cell b21
  replace b30 := Lw4.cell b30
  replace b31 := Lw4.cell b31
  replace f_b30 := Lw4.frz z_b3 f_b30
  replace f_b31 := Lw4.frz z_b3 f_b31
  replace b40 := Lw4.cell b40
  replace b41 := Lw4.cell b41
  replace e70 := Lw4.cell e70
  replace x90 := Lw4.cell x90
  replace x91 := Lw4.cell x91
  replace x92 := Lw4.cell x92
  replace x93 := Lw4.cell x93
  replace x94 := Lw4.cell x94
  have z_b1 : w.heap.size < w4.heap.size := qB b10
  have z_b2 : w.heap.size + 1 < w4.heap.size := qB b20
  have z_b3 : w.heap.size + 1 + 1 < w4.heap.size := qB b30
  have z_b4 : w1.heap.size < w4.heap.size := qB b40
  have z_e7 : bl5 < w4.heap.size := qB e70
  have z_x9 : bl22 < w4.heap.size := qB x90
  replace i31 := i31.ext Lw4
  have s_w4 : w.heap.size ≤ w4.heap.size := Xw4.size
  clear xw4
  have hy_tx32 : (tx32.size : Int) ≤ 8388608 := by omega
  have hv_tx32 : ¬ 9223372036854775807 < 3 + tx32.size := by omega
  refine hK.out _ _ ⟨b10, b11, b21, e70, x91, x92, x93⟩ (fun hHeld => ?_)
  clear hK K
  try simp only [Act.put, qa, qb, qc, qD, qE, qF]
  refine qHk (v := ?_) 14 rfl (.inl ⟨by rfl, ?_⟩) ?_
  rotate_left
  ·
   (intro w hSw; (try dsimp only at hSw); go_simp; try with_reducible rfl)
  try simp only [Act.put, qa, qb, qc, qD, qE, qF]
  refine qHr 15 rfl (fun K hK => ?_)
  try simp only [Act.put, qa, qb, qc, qD, qE, qF]
  go_simp
  generalize hW4 : ((w4.setCell ⟨w.heap.size + 1 + 1, 0, none⟩ (.slice p0 cells.length c0)).setCell ⟨w.heap.size + 1 + 1, 1, none⟩ (.slice (some ⟨bl22, ol23, none⟩) es.length c1)) = w5 at *
  have Kw5 : Chg (w.heap.size + 1 + 1) (w.heap.size + 1 + 1 + 1) w4 w5 := by subst hW4; exact qCh
  have Xw5 : Ext w w5 := by subst hW4; exact qXt
  replace b10 := Kw5.cell (by omega) b10
  replace b11 := Kw5.cell (by omega) b11
  replace b20 := Kw5.cell (by omega) b20
  replace b21 := Kw5.cell (by omega) b21
  replace b30 : w5.cell? ⟨w.heap.size + 1 + 1, 0, none⟩ = some (.slice p0 cells.length c0) := by subst hW4; go_simp
  replace f_b30 : w5.frozen? ⟨w.heap.size + 1 + 1, 0, none⟩ = false := by subst hW4; first | (simp only [World.frozen?_setCell]; with_reducible assumption) | go_simp
  replace b31 : w5.cell? ⟨w.heap.size + 1 + 1, 1, none⟩ = some (.slice (some ⟨bl22, ol23, none⟩) es.length c1) := by subst hW4; go_simp
  replace f_b31 : w5.frozen? ⟨w.heap.size + 1 + 1, 1, none⟩ = false := by subst hW4; first | (simp only [World.frozen?_setCell]; with_reducible assumption) | go_simp
  replace b40 := Kw5.cell (by omega) b40
  replace b41 := Kw5.cell (by omega) b41
  replace e70 := Kw5.cell (by omega) e70
  replace x90 := Kw5.cell (by omega) x90
  replace x91 := Kw5.cell (by omega) x91
  replace x92 := Kw5.cell (by omega) x92
  replace x93 := Kw5.cell (by omega) x93
  replace x94 := Kw5.cell (by omega) x94
  replace i31 := i31.chg Kw5 (by omega)
  clear Kw5
  have z_b1 : w.heap.size < w5.heap.size := qB b10
  have z_b2 : w.heap.size + 1 < w5.heap.size := qB b20
  have z_b3 : w.heap.size + 1 + 1 < w5.heap.size := qB b30
  have z_b4 : w1.heap.size < w5.heap.size := qB b40
  have z_e7 : bl5 < w5.heap.size := qB e70
  have z_x9 : bl22 < w5.heap.size := qB x90
  have s_w5 : w.heap.size ≤ w5.heap.size := Xw5.size
  clear hW4
  refine hK.out _ _ ⟨b10, b11, b21, e70, x91, x92, x93⟩ (fun hHeld => ?_)
  clear hK K
  try simp only [Act.put, qa, qb, qc, qD, qE, qF]
  refine qHk (v := ?_) 16 rfl (.inl ⟨by rfl, ?_⟩) ?_
  rotate_left
  ·
   (intro w hSw; (try dsimp only at hSw); go_simp; try with_reducible rfl)
  try simp only [Act.put, qa, qb, qc, qD, qE, qF]
  refine wpAnyH_done qKr ?_ _
  clear hHeld 
  go_wp2_with fail
  refine bodyPost_ret (v := .tuple #[.agg #[.slice p0 cells.length c0, .slice (some ⟨bl22, ol23, none⟩) es.length c1], .string (({ data := #[104, 97, 115] } : ByteArray) ++ tx32)]) (by simp only [results, Try.results64]; go_simp) rfl ?_
  exact ⟨_, _, cells, es, _, rfl, hv.out, .inr ⟨rfl, rfl, rfl, rfl⟩, (Xw5.trans qXt)⟩


end Go.Proofs.Ytgklaobfikbiiaa

/- What the arguments of a law read as, when they are opened: ints, lists of ints, views. -/
namespace Go.Proofs.Ytgklaobfikbiiaa
open Go.ChangeShapes Go.WideShapes Go.ChangeAt Go.RowKit Go.Joins
set_option linter.unusedVariables false
set_option maxRecDepth 100000

theorem own : ownKnob Try.prog.godebug = none := by kernel_rfl
theorem laidOut : laidOutB Try.prog = true := by kernel_rfl
/-- a slice of ints that came in -/
def RawIn (w : World) (v : Value) (xs : List Int) : Prop := Raw w v xs ∧ xs.length ≤ maxLen

section
variable {H : Type} {enc : TypeId × Value → H} {w : World} {base : Nat} {spare : Nat → Bool} {held : Bool} {fuel : Nat}

theorem RawIn.form {v : Value} {xs : List Int} (h : RawIn w v xs) : ∃ a cap, v = .slice a xs.length cap := by
  obtain ⟨⟨a, cap, hv, _⟩, _⟩ := h; exact ⟨a, cap, hv⟩

end

end Go.Proofs.Ytgklaobfikbiiaa

/- What the argument of a law on drawn data reads as, when it is opened: a slice of bytes. -/
namespace Go.Proofs.Ytgklaobfikbiiaa
open Go.ChangeShapes Go.WideShapes Go.ChangeAt Go.RowKit Go.Joins
set_option linter.unusedVariables false

theorem bys_of_cells {W : World} {x : Addr} {n cap : Nat} {zs : List Int} (hl : n ≤ cap) (hm : cap ≤ maxLen) (hz : zs.length = cap) (hcell : ∀ i, i < zs.length → W.cell? (x.add i) = some (.int .u8 (zs.getD i 0))) (hwz : ∀ m ∈ zs, (Lit.int .u8 m).wf = true) : BysIn W (some x) n cap := by
  refine ⟨hl, hm, fun i hi => ?_⟩
  obtain ⟨b, off, spot⟩ := x
  have h0 := hcell 0 (by omega)
  have hspot : spot = none := by simpa [Addr.add] using World.cell?_spot h0
  subst hspot
  have hc := hcell i (by omega)
  have e : (⟨b, off, none⟩ : Addr).add i = ⟨b, off + i, none⟩ := by unfold Addr.add; split <;> simp_all
  rw [e] at hc
  have hw := hwz (zs.getD i 0) (by simp [show i < zs.length by omega])
  refine ⟨b, off, _, rfl, hc, ?_⟩
  have := bounds_u8 hw
  omega

end Go.Proofs.Ytgklaobfikbiiaa

/- Walks: drawn arguments: a view; a view and a size. -/
namespace Go.Proofs.Ytgklaobfikbiiaa
open Go.RowKit
set_option linter.unusedVariables false
set_option maxRecDepth 100000


end Go.Proofs.Ytgklaobfikbiiaa

/- Walks: drawn memories, views of memories, values. -/
namespace Go.Proofs.Ytgklaobfikbiiaa
open Go.RowKit
set_option linter.unusedVariables false
set_option maxRecDepth 100000

end Go.Proofs.Ytgklaobfikbiiaa

/- Walks: views and memories are drawn. -/
namespace Go.Proofs.Ytgklaobfikbiiaa
open Go.RowKit
set_option linter.unusedVariables false
set_option maxRecDepth 100000

end Go.Proofs.Ytgklaobfikbiiaa

/- Walks: a view and a dimension are drawn. -/
namespace Go.Proofs.Ytgklaobfikbiiaa
open Go.RowKit
set_option linter.unusedVariables false
set_option maxRecDepth 100000

end Go.Proofs.Ytgklaobfikbiiaa

/- Walks: an act is drawn. -/
namespace Go.Proofs.Ytgklaobfikbiiaa
open Go.RowKit
set_option linter.unusedVariables false
set_option maxRecDepth 100000

/-- how many numbers an act of a kind has -/
def needN (k : Nat) : Nat := if k = 1 then 3 else if k = 2 then 4 else if k = 4 ∨ k = 5 then 2 else 1
/-- an act is drawn -/
def SAct (rb q : Nat) (w : World) (e : Ending) (w' : World) : Prop := ∃ (kd : Nat) (ns : List Int) (p : Option Addr) (r : Nat), e = .returned (.agg #[.int .i64 (kd : Int), .slice p ns.length r]) ∧ Hid (kd ≤ 7 ∧ needN kd = ns.length) ∧ ns.length ≤ 4 ∧ OwnI w' w.heap.size (.slice p ns.length r) ns ∧ Rd w' rb q ∧ Chg rb (rb + 1) w w'
theorem lita1 (w : World) (x : Int) : OwnI (w.alloc (.cells #[.int .i64 x] 3)) w.heap.size (.slice (some ⟨w.heap.size, 0, none⟩) 1 1) [x] :=
 World.ownsRow_lit w #[.int .i64 x] 1 (Nat.le_refl _) (by decide) rfl
theorem lita2 (w : World) (x y : Int) : OwnI (w.alloc (.cells #[.int .i64 x, .int .i64 y] 3)) w.heap.size (.slice (some ⟨w.heap.size, 0, none⟩) 2 2) [x, y] :=
 World.ownsRow_lit w #[.int .i64 x, .int .i64 y] 2 (Nat.le_refl _) (by decide) rfl
theorem lita3 (w : World) (x y z : Int) : OwnI (w.alloc (.cells #[.int .i64 x, .int .i64 y, .int .i64 z] 3)) w.heap.size (.slice (some ⟨w.heap.size, 0, none⟩) 3 3) [x, y, z] :=
 World.ownsRow_lit w #[.int .i64 x, .int .i64 y, .int .i64 z] 3 (Nat.le_refl _) (by decide) rfl
theorem lita4 (w : World) (x y z u : Int) : OwnI (w.alloc (.cells #[.int .i64 x, .int .i64 y, .int .i64 z, .int .i64 u] 3)) w.heap.size (.slice (some ⟨w.heap.size, 0, none⟩) 4 4) [x, y, z, u] :=
 World.ownsRow_lit w #[.int .i64 x, .int .i64 y, .int .i64 z, .int .i64 u] 4 (Nat.le_refl _) (by decide) rfl
set_option maxHeartbeats 6400000 in
theorem someAct_c (rb k lb : Nat) (cells : List Int) (es : List Exp) (cv ev : Value) (R : Nat → Value) (w : World) (B : BufR w lb cv ev cells es R) (hlb : rb < lb) (hr : Rd w rb k) (hk : k ≤ 500000) :
  Calls Try.prog 65 #[.pointer (some ⟨rb, 0, none⟩), .agg #[cv, ev]] w (SAct rb (k + 10) w) := by
 have hlt := hr.lt
 have h1 := B.ints
 have h2 := B.exps
 obtain ⟨p0, c0, rfl⟩ := h1.form
 obtain ⟨p1, c1, rfl⟩ := h2.form
 have he1 := h2.len
 clear h1 h2
 obtain ⟨ol, hol⟩ : ∃ l, openA cells es = l := ⟨_, rfl⟩
 replace hol := Lib.hid hol
 have hwl : IntKind.i64.wrap ((es.length : Int) + 1) = (es.length : Int) + 1 := IntWalk.i64_in _ (by omega)
 go_enter Try.func65, Try.ntmps65
 go_wp2_with fail
 generalize hW1 : (w.alloc (.cells #[.slice p0 cells.length c0, .slice p1 es.length c1] 26)).alloc (.cells #[.int .i64 0, .slice none 0 0] 69) = w1 at *
 have Lw1 : Ext w w1 := by subst hW1; exact qXt
 have Xw1 : Rch rb w w1 := Rch.ext (Rch.refl rb w) Lw1
 replace hr := hr.ext Lw1
 have b0 : w1.cell? ⟨w.heap.size, 0, none⟩ = some (.slice p0 cells.length c0) := by subst hW1; exact qCl
 have b1 : w1.cell? ⟨w.heap.size, 1, none⟩ = some (.slice p1 es.length c1) := by subst hW1; exact qCl
 have q0 : w1.cell? ⟨w.heap.size + 1, 0, none⟩ = some (.int .i64 0) := by subst hW1; exact qCl
 have q1 : w1.cell? ⟨w.heap.size + 1, 1, none⟩ = some (.slice none 0 0) := by subst hW1; exact qCl
 have f_q0 : w1.frozen? ⟨w.heap.size + 1, 0, none⟩ = false := by subst hW1; exact qFz
 have f_q1 : w1.frozen? ⟨w.heap.size + 1, 1, none⟩ = false := by subst hW1; exact qFz
 have z_b : w.heap.size < w1.heap.size := qB b0
 have z_q : w.heap.size + 1 < w1.heap.size := qB q0
 replace B := B.ext Lw1
 have s_w1 : w.heap.size ≤ w1.heap.size := Xw1.size
 clear hW1
 refine (pick_c ((es.length : Int) + 1) _ _ _ hr (by omega)).mono ?_
 rintro e w2 ⟨x1, rfl, hx1, Rw2, Cw2⟩
 have zc_w2 := Cw2.size
 have Xw2 : Rch rb w w2 := Rch.step (Xw1) Cw2
 replace b0 := Cw2.cell (by omega) b0
 replace b1 := Cw2.cell (by omega) b1
 replace q0 := Cw2.cell (by omega) q0
 replace f_q0 := Cw2.frzO (by omega) (by omega) f_q0
 replace q1 := Cw2.cell (by omega) q1
 replace f_q1 := Cw2.frzO (by omega) (by omega) f_q1
 have z_b : w.heap.size < w2.heap.size := qB b0
 have z_q : w.heap.size + 1 < w2.heap.size := qB q0
 replace B := B.chg Cw2 (by omega)
 have s_w2 : w.heap.size ≤ w2.heap.size := Xw2.size
 clear hr Cw2
 dsimp only
 go_step
 go_step
 go_step
 go_step
 go_step
 go_step
 go_step
 go_step
 go_cut [5] (fun s5 wx => ∃ (id : Int) (q : Nat), s5 = .int .i64 id ∧ q ≤ k + 3 ∧ Rd wx rb q ∧ Chg rb (rb + 1) w2 wx)
 case first =>
  have BC : Rch rb w2 w2 := Rch.refl rb _
  go_wp2_with fail
  refine (pi_eq hol.out (specOpenOf_c cells es _ _ _ _ _ (B.ints.ext qXt) (B.exps.ext qXt))).mono ?_
  rintro e w3 ⟨fv, rfl, io, -, xw3⟩
  have Lw3 : Ext w2 w3 := Ext.trans qXt xw3
  have Xw3 : Rch rb w w3 := Rch.ext Xw2 Lw3
  replace Rw2 := Rw2.ext Lw3
  replace b0 := Lw3.cell b0
  replace b1 := Lw3.cell b1
  replace q0 := Lw3.cell q0
  replace q1 := Lw3.cell q1
  replace f_q0 := Lw3.frz z_q f_q0
  replace f_q1 := Lw3.frz z_q f_q1
  have z_b : w.heap.size < w3.heap.size := qB b0
  have z_q : w.heap.size + 1 < w3.heap.size := qB q0
  replace B := B.ext Lw3
  have s_w3 : w.heap.size ≤ w3.heap.size := Xw3.size
  have BC_w3 : Rch rb w2 w3 := Rch.ext BC Lw3
  clear xw3
  obtain ⟨ao, co, rfl⟩ := io.form
  have hiol := io.len
  by_cases ho : 0 < ol.length
  ·
   have hoI : (0 : Int) < (ol.length : Int) := by omega
   go_wp2_with fail
   refine (pick1_c 4 _ _ _ Rw2 (by omega) (by omega)).mono ?_
   rintro e w4 ⟨x2, rfl, hx2, Rw4, Cw4⟩
   have zc_w4 := Cw4.size
   have Xw4 : Rch rb w w4 := Rch.step (Xw3) Cw4
   replace b0 := Cw4.cell (by omega) b0
   replace b1 := Cw4.cell (by omega) b1
   replace q0 := Cw4.cell (by omega) q0
   replace f_q0 := Cw4.frzO (by omega) (by omega) f_q0
   replace q1 := Cw4.cell (by omega) q1
   replace f_q1 := Cw4.frzO (by omega) (by omega) f_q1
   have BC_w4 : Rch rb w2 w4 := Rch.step (BC_w3) Cw4
   have z_b : w.heap.size < w4.heap.size := qB b0
   have z_q : w.heap.size + 1 < w4.heap.size := qB q0
   replace B := B.chg Cw4 (by omega)
   replace io := io.chg Cw4 (by omega)
   have s_w4 : w.heap.size ≤ w4.heap.size := Xw4.size
   clear Rw2 Cw4
   by_cases h2 : 0 < x2
   ·
    go_wp2_with fail
    refine (pick1_c (ol.length : Int) _ _ _ Rw4 (by omega) (by omega)).mono ?_
    rintro e w5 ⟨x3, rfl, hx3, Rw5, Cw5⟩
    have zc_w5 := Cw5.size
    have Xw5 : Rch rb w w5 := Rch.step (Xw4) Cw5
    replace b0 := Cw5.cell (by omega) b0
    replace b1 := Cw5.cell (by omega) b1
    replace q0 := Cw5.cell (by omega) q0
    replace f_q0 := Cw5.frzO (by omega) (by omega) f_q0
    replace q1 := Cw5.cell (by omega) q1
    replace f_q1 := Cw5.frzO (by omega) (by omega) f_q1
    have BC_w5 : Rch rb w2 w5 := Rch.step (BC_w4) Cw5
    have z_b : w.heap.size < w5.heap.size := qB b0
    have z_q : w.heap.size + 1 < w5.heap.size := qB q0
    replace B := B.chg Cw5 (by omega)
    replace io := io.chg Cw5 (by omega)
    have s_w5 : w.heap.size ≤ w5.heap.size := Xw5.size
    clear Rw4 Cw5
    obtain ⟨j, rfl⟩ : ∃ j : Nat, x3 = j := ⟨x3.toNat, by omega⟩
    have hjI : (j : Int) < (ol.length : Int) := by omega
    obtain ⟨bo, oo, rfl, e0⟩ := io.at j (by omega)
    go_wp2_with fail
    go_meet
    case rel => exact ⟨_, _, rfl, (by omega), Rw5.mono (Nat.le_refl _), BC_w5⟩
   ·
    go_wp2_with fail
    go_meet
    case rel => exact ⟨_, _, rfl, (by omega), Rw4.mono (Nat.le_refl _), BC_w4⟩
  ·
   have hoI : ¬ (0 : Int) < (ol.length : Int) := by omega
   go_wp2_with fail
   go_meet
   case rel => exact ⟨_, _, rfl, (by omega), Rw2.mono (Nat.le_refl _), BC_w3⟩
 case rest =>
  generalize wc = w3 at hcut ⊢
  obtain ⟨id, q, rfl, hq, Rw3, Lw3⟩ := hcut
  have Xw3 : Rch rb w w3 := Rch.step Xw2 Lw3
  replace b0 := Lw3.cell (by omega) b0
  replace b1 := Lw3.cell (by omega) b1
  replace q0 := Lw3.cell (by omega) q0
  replace f_q0 := Lw3.frzO (by omega) (by omega) f_q0
  replace q1 := Lw3.cell (by omega) q1
  replace f_q1 := Lw3.frzO (by omega) (by omega) f_q1
  have z_b : w.heap.size < w3.heap.size := qB b0
  have z_q : w.heap.size + 1 < w3.heap.size := qB q0
  replace B := B.chg Lw3 (by omega)
  have s_w3 : w.heap.size ≤ w3.heap.size := Xw3.size
  clear Lw3
  go_wp2_with fail
  refine (oneLit_c #[.int .i64 1, .int .i64 2, .int .i64 3, .int .i64 4, .int .i64 5, .int .i64 6, .int .i64 7, .int .i64 0, .int .i64 6, .int .i64 4] 10 _ _ _ _ Rw3 (by omega) (by rfl) (by rfl) (by constructor <;> simp) (by first | rfl | simp)).mono ?_
  rintro e w4 ⟨kd, rfl, hkd, Rw4, Cw4⟩
  have Ew4 : Ext w3 (w3.alloc (.cells #[.int .i64 1, .int .i64 2, .int .i64 3, .int .i64 4, .int .i64 5, .int .i64 6, .int .i64 7, .int .i64 0, .int .i64 6, .int .i64 4] 3)) := qXt
  have e_w4 := Ew4.size
  have zc_w4 := Cw4.size
  have Xw4 : Rch rb w w4 := Rch.step (Rch.ext Xw3 Ew4) Cw4
  replace b0 := Cw4.cell (by omega) (Ew4.cell b0)
  replace b1 := Cw4.cell (by omega) (Ew4.cell b1)
  replace q0 := Cw4.cell (by omega) (Ew4.cell q0)
  replace f_q0 := Cw4.frzO (by omega) (by omega) (Ew4.frz z_q f_q0)
  replace q1 := Cw4.cell (by omega) (Ew4.cell q1)
  replace f_q1 := Cw4.frzO (by omega) (by omega) (Ew4.frz z_q f_q1)
  have z_b : w.heap.size < w4.heap.size := qB b0
  have z_q : w.heap.size + 1 < w4.heap.size := qB q0
  replace B := (B.ext Ew4).chg Cw4 (by omega)
  have s_w4 : w.heap.size ≤ w4.heap.size := Xw4.size
  clear Rw3 Cw4 Ew4
  replace hkd : kd = 0 ∨ kd = 1 ∨ kd = 2 ∨ kd = 3 ∨ kd = 4 ∨ kd = 5 ∨ kd = 6 ∨ kd = 7 := by simp [litL] at hkd; omega
  rcases hkd with rfl | rfl | rfl | rfl | rfl | rfl | rfl | rfl
  ·
   skip
   go_wp2_with fail
   refine (oneLit_c #[.int .i64 12, .int .i64 20, .int .i64 8, .int .i64 30, .int .i64 0] 5 _ _ _ _ Rw4 (by omega) (by rfl) (by rfl) (by constructor <;> simp) (by first | rfl | simp)).mono ?_
   rintro e w5 ⟨y0, rfl, hy0, Rw5, Cw5⟩
   have Ew5 : Ext w4 (w4.alloc (.cells #[.int .i64 12, .int .i64 20, .int .i64 8, .int .i64 30, .int .i64 0] 3)) := qXt
   have e_w5 := Ew5.size
   have zc_w5 := Cw5.size
   have Xw5 : Rch rb w w5 := Rch.step (Rch.ext Xw4 Ew5) Cw5
   replace b0 := Cw5.cell (by omega) (Ew5.cell b0)
   replace b1 := Cw5.cell (by omega) (Ew5.cell b1)
   replace q0 := Cw5.cell (by omega) (Ew5.cell q0)
   replace f_q0 := Cw5.frzO (by omega) (by omega) (Ew5.frz z_q f_q0)
   replace q1 := Cw5.cell (by omega) (Ew5.cell q1)
   replace f_q1 := Cw5.frzO (by omega) (by omega) (Ew5.frz z_q f_q1)
   have z_b : w.heap.size < w5.heap.size := qB b0
   have z_q : w.heap.size + 1 < w5.heap.size := qB q0
   replace B := (B.ext Ew5).chg Cw5 (by omega)
   have s_w5 : w.heap.size ≤ w5.heap.size := Xw5.size
   clear Rw4 Cw5 Ew5
   clear hy0
   go_wp2_with fail
   have hO : OwnI (((w5.setCell ⟨w.heap.size + 1, 0, none⟩ (.int .i64 0)).setCell ⟨w.heap.size + 1, 1, none⟩ (.slice (some ⟨w5.heap.size, 0, none⟩) 1 1)).alloc (.cells #[.int .i64 y0] 3)) w5.heap.size (.slice (some ⟨w5.heap.size, 0, none⟩) 1 1) [y0] := by simpa using lita1 ((w5.setCell ⟨w.heap.size + 1, 0, none⟩ (.int .i64 0)).setCell ⟨w.heap.size + 1, 1, none⟩ (.slice (some ⟨w5.heap.size, 0, none⟩) 1 1)) y0
   refine bodyPost_ret (v := .agg #[.int .i64 (0 : Int), .slice (some ⟨w5.heap.size, 0, none⟩) 1 1]) (by simp only [results, Try.results65]; go_simp) rfl ?_
   have fR : Rd (((w5.setCell ⟨w.heap.size + 1, 0, none⟩ (.int .i64 0)).setCell ⟨w.heap.size + 1, 1, none⟩ (.slice (some ⟨w5.heap.size, 0, none⟩) 1 1)).alloc (.cells #[.int .i64 y0] 3)) rb (k + 10) := Rd.mono (by repeat (first | (with_reducible exact Rw5) | (with_reducible apply Rd.alloc) | ((with_reducible apply Rd.set2); (· first | assumption | (simp; omega) | (simp; done) | omega)))) (by omega)
   have fC : Chg rb (rb + 1) w (((w5.setCell ⟨w.heap.size + 1, 0, none⟩ (.int .i64 0)).setCell ⟨w.heap.size + 1, 1, none⟩ (.slice (some ⟨w5.heap.size, 0, none⟩) 1 1)).alloc (.cells #[.int .i64 y0] 3)) := (by (try change Rch rb _ _); repeat (first | (with_reducible exact Xw5) | (with_reducible apply Rch.alloc) | (with_reducible refine Rch.set ?_ (by first | assumption | (simp <;> omega) | omega) _)))
   exact ⟨0, [y0], _, _, rfl, Lib.hid ⟨by omega, rfl⟩, (by simp), hO.lower (by omega), fR, fC⟩
  ·
   skip
   go_wp2_with fail
   refine (pick1_c 6 _ _ _ Rw4 (by omega) (by omega)).mono ?_
   rintro e w5 ⟨y0, rfl, hy0, Rw5, Cw5⟩
   have zc_w5 := Cw5.size
   have Xw5 : Rch rb w w5 := Rch.step (Xw4) Cw5
   replace b0 := Cw5.cell (by omega) b0
   replace b1 := Cw5.cell (by omega) b1
   replace q0 := Cw5.cell (by omega) q0
   replace f_q0 := Cw5.frzO (by omega) (by omega) f_q0
   replace q1 := Cw5.cell (by omega) q1
   replace f_q1 := Cw5.frzO (by omega) (by omega) f_q1
   have z_b : w.heap.size < w5.heap.size := qB b0
   have z_q : w.heap.size + 1 < w5.heap.size := qB q0
   replace B := B.chg Cw5 (by omega)
   have s_w5 : w.heap.size ≤ w5.heap.size := Xw5.size
   clear Rw4 Cw5
   go_wp2_with fail
   refine (oneLit_c #[.int .i64 4, .int .i64 3, .int .i64 5, .int .i64 2, .int .i64 0] 5 _ _ _ _ Rw5 (by omega) (by rfl) (by rfl) (by constructor <;> simp) (by first | rfl | simp)).mono ?_
   rintro e w6 ⟨y1, rfl, hy1, Rw6, Cw6⟩
   have Ew6 : Ext w5 (w5.alloc (.cells #[.int .i64 4, .int .i64 3, .int .i64 5, .int .i64 2, .int .i64 0] 3)) := qXt
   have e_w6 := Ew6.size
   have zc_w6 := Cw6.size
   have Xw6 : Rch rb w w6 := Rch.step (Rch.ext Xw5 Ew6) Cw6
   replace b0 := Cw6.cell (by omega) (Ew6.cell b0)
   replace b1 := Cw6.cell (by omega) (Ew6.cell b1)
   replace q0 := Cw6.cell (by omega) (Ew6.cell q0)
   replace f_q0 := Cw6.frzO (by omega) (by omega) (Ew6.frz z_q f_q0)
   replace q1 := Cw6.cell (by omega) (Ew6.cell q1)
   replace f_q1 := Cw6.frzO (by omega) (by omega) (Ew6.frz z_q f_q1)
   have z_b : w.heap.size < w6.heap.size := qB b0
   have z_q : w.heap.size + 1 < w6.heap.size := qB q0
   replace B := (B.ext Ew6).chg Cw6 (by omega)
   have s_w6 : w.heap.size ≤ w6.heap.size := Xw6.size
   clear Rw5 Cw6 Ew6
   clear hy1
   go_wp2_with fail
   refine (oneLit_c #[.int .i64 1, .int .i64 2, .int .i64 3, .int .i64 0, .int .i64 (-1)] 5 _ _ _ _ Rw6 (by omega) (by rfl) (by rfl) (by constructor <;> simp) (by first | rfl | simp)).mono ?_
   rintro e w7 ⟨y2, rfl, hy2, Rw7, Cw7⟩
   have Ew7 : Ext w6 (w6.alloc (.cells #[.int .i64 1, .int .i64 2, .int .i64 3, .int .i64 0, .int .i64 (-1)] 3)) := qXt
   have e_w7 := Ew7.size
   have zc_w7 := Cw7.size
   have Xw7 : Rch rb w w7 := Rch.step (Rch.ext Xw6 Ew7) Cw7
   replace b0 := Cw7.cell (by omega) (Ew7.cell b0)
   replace b1 := Cw7.cell (by omega) (Ew7.cell b1)
   replace q0 := Cw7.cell (by omega) (Ew7.cell q0)
   replace f_q0 := Cw7.frzO (by omega) (by omega) (Ew7.frz z_q f_q0)
   replace q1 := Cw7.cell (by omega) (Ew7.cell q1)
   replace f_q1 := Cw7.frzO (by omega) (by omega) (Ew7.frz z_q f_q1)
   have z_b : w.heap.size < w7.heap.size := qB b0
   have z_q : w.heap.size + 1 < w7.heap.size := qB q0
   replace B := (B.ext Ew7).chg Cw7 (by omega)
   have s_w7 : w.heap.size ≤ w7.heap.size := Xw7.size
   clear Rw6 Cw7 Ew7
   clear hy2
   go_wp2_with fail
   have hO : OwnI (((w7.setCell ⟨w.heap.size + 1, 0, none⟩ (.int .i64 1)).setCell ⟨w.heap.size + 1, 1, none⟩ (.slice (some ⟨w7.heap.size, 0, none⟩) 3 3)).alloc (.cells #[.int .i64 y0, .int .i64 y1, .int .i64 y2] 3)) w7.heap.size (.slice (some ⟨w7.heap.size, 0, none⟩) 3 3) [y0, y1, y2] := by simpa using lita3 ((w7.setCell ⟨w.heap.size + 1, 0, none⟩ (.int .i64 1)).setCell ⟨w.heap.size + 1, 1, none⟩ (.slice (some ⟨w7.heap.size, 0, none⟩) 3 3)) y0 y1 y2
   refine bodyPost_ret (v := .agg #[.int .i64 (1 : Int), .slice (some ⟨w7.heap.size, 0, none⟩) 3 3]) (by simp only [results, Try.results65]; go_simp) rfl ?_
   have fR : Rd (((w7.setCell ⟨w.heap.size + 1, 0, none⟩ (.int .i64 1)).setCell ⟨w.heap.size + 1, 1, none⟩ (.slice (some ⟨w7.heap.size, 0, none⟩) 3 3)).alloc (.cells #[.int .i64 y0, .int .i64 y1, .int .i64 y2] 3)) rb (k + 10) := Rd.mono (by repeat (first | (with_reducible exact Rw7) | (with_reducible apply Rd.alloc) | ((with_reducible apply Rd.set2); (· first | assumption | (simp; omega) | (simp; done) | omega)))) (by omega)
   have fC : Chg rb (rb + 1) w (((w7.setCell ⟨w.heap.size + 1, 0, none⟩ (.int .i64 1)).setCell ⟨w.heap.size + 1, 1, none⟩ (.slice (some ⟨w7.heap.size, 0, none⟩) 3 3)).alloc (.cells #[.int .i64 y0, .int .i64 y1, .int .i64 y2] 3)) := (by (try change Rch rb _ _); repeat (first | (with_reducible exact Xw7) | (with_reducible apply Rch.alloc) | (with_reducible refine Rch.set ?_ (by first | assumption | (simp <;> omega) | omega) _)))
   exact ⟨1, [y0, y1, y2], _, _, rfl, Lib.hid ⟨by omega, rfl⟩, (by simp), hO.lower (by omega), fR, fC⟩
  ·
   skip
   go_wp2_with fail
   refine (pick1_c 4 _ _ _ Rw4 (by omega) (by omega)).mono ?_
   rintro e w5 ⟨y0, rfl, hy0, Rw5, Cw5⟩
   have zc_w5 := Cw5.size
   have Xw5 : Rch rb w w5 := Rch.step (Xw4) Cw5
   replace b0 := Cw5.cell (by omega) b0
   replace b1 := Cw5.cell (by omega) b1
   replace q0 := Cw5.cell (by omega) q0
   replace f_q0 := Cw5.frzO (by omega) (by omega) f_q0
   replace q1 := Cw5.cell (by omega) q1
   replace f_q1 := Cw5.frzO (by omega) (by omega) f_q1
   have z_b : w.heap.size < w5.heap.size := qB b0
   have z_q : w.heap.size + 1 < w5.heap.size := qB q0
   replace B := B.chg Cw5 (by omega)
   have s_w5 : w.heap.size ≤ w5.heap.size := Xw5.size
   clear Rw4 Cw5
   go_wp2_with fail
   refine (oneLit_c #[.int .i64 3, .int .i64 4, .int .i64 (-1), .int .i64 2] 4 _ _ _ _ Rw5 (by omega) (by rfl) (by rfl) (by constructor <;> simp) (by first | rfl | simp)).mono ?_
   rintro e w6 ⟨y1, rfl, hy1, Rw6, Cw6⟩
   have Ew6 : Ext w5 (w5.alloc (.cells #[.int .i64 3, .int .i64 4, .int .i64 (-1), .int .i64 2] 3)) := qXt
   have e_w6 := Ew6.size
   have zc_w6 := Cw6.size
   have Xw6 : Rch rb w w6 := Rch.step (Rch.ext Xw5 Ew6) Cw6
   replace b0 := Cw6.cell (by omega) (Ew6.cell b0)
   replace b1 := Cw6.cell (by omega) (Ew6.cell b1)
   replace q0 := Cw6.cell (by omega) (Ew6.cell q0)
   replace f_q0 := Cw6.frzO (by omega) (by omega) (Ew6.frz z_q f_q0)
   replace q1 := Cw6.cell (by omega) (Ew6.cell q1)
   replace f_q1 := Cw6.frzO (by omega) (by omega) (Ew6.frz z_q f_q1)
   have z_b : w.heap.size < w6.heap.size := qB b0
   have z_q : w.heap.size + 1 < w6.heap.size := qB q0
   replace B := (B.ext Ew6).chg Cw6 (by omega)
   have s_w6 : w.heap.size ≤ w6.heap.size := Xw6.size
   clear Rw5 Cw6 Ew6
   clear hy1
   go_wp2_with fail
   refine (oneLit_c #[.int .i64 1, .int .i64 2, .int .i64 (-1), .int .i64 1] 4 _ _ _ _ Rw6 (by omega) (by rfl) (by rfl) (by constructor <;> simp) (by first | rfl | simp)).mono ?_
   rintro e w7 ⟨y2, rfl, hy2, Rw7, Cw7⟩
   have Ew7 : Ext w6 (w6.alloc (.cells #[.int .i64 1, .int .i64 2, .int .i64 (-1), .int .i64 1] 3)) := qXt
   have e_w7 := Ew7.size
   have zc_w7 := Cw7.size
   have Xw7 : Rch rb w w7 := Rch.step (Rch.ext Xw6 Ew7) Cw7
   replace b0 := Cw7.cell (by omega) (Ew7.cell b0)
   replace b1 := Cw7.cell (by omega) (Ew7.cell b1)
   replace q0 := Cw7.cell (by omega) (Ew7.cell q0)
   replace f_q0 := Cw7.frzO (by omega) (by omega) (Ew7.frz z_q f_q0)
   replace q1 := Cw7.cell (by omega) (Ew7.cell q1)
   replace f_q1 := Cw7.frzO (by omega) (by omega) (Ew7.frz z_q f_q1)
   have z_b : w.heap.size < w7.heap.size := qB b0
   have z_q : w.heap.size + 1 < w7.heap.size := qB q0
   replace B := (B.ext Ew7).chg Cw7 (by omega)
   have s_w7 : w.heap.size ≤ w7.heap.size := Xw7.size
   clear Rw6 Cw7 Ew7
   clear hy2
   go_wp2_with fail
   have hO : OwnI (((w7.setCell ⟨w.heap.size + 1, 0, none⟩ (.int .i64 2)).setCell ⟨w.heap.size + 1, 1, none⟩ (.slice (some ⟨w7.heap.size, 0, none⟩) 4 4)).alloc (.cells #[.int .i64 id, .int .i64 y0, .int .i64 y1, .int .i64 y2] 3)) w7.heap.size (.slice (some ⟨w7.heap.size, 0, none⟩) 4 4) [id, y0, y1, y2] := by simpa using lita4 ((w7.setCell ⟨w.heap.size + 1, 0, none⟩ (.int .i64 2)).setCell ⟨w.heap.size + 1, 1, none⟩ (.slice (some ⟨w7.heap.size, 0, none⟩) 4 4)) id y0 y1 y2
   refine bodyPost_ret (v := .agg #[.int .i64 (2 : Int), .slice (some ⟨w7.heap.size, 0, none⟩) 4 4]) (by simp only [results, Try.results65]; go_simp) rfl ?_
   have fR : Rd (((w7.setCell ⟨w.heap.size + 1, 0, none⟩ (.int .i64 2)).setCell ⟨w.heap.size + 1, 1, none⟩ (.slice (some ⟨w7.heap.size, 0, none⟩) 4 4)).alloc (.cells #[.int .i64 id, .int .i64 y0, .int .i64 y1, .int .i64 y2] 3)) rb (k + 10) := Rd.mono (by repeat (first | (with_reducible exact Rw7) | (with_reducible apply Rd.alloc) | ((with_reducible apply Rd.set2); (· first | assumption | (simp; omega) | (simp; done) | omega)))) (by omega)
   have fC : Chg rb (rb + 1) w (((w7.setCell ⟨w.heap.size + 1, 0, none⟩ (.int .i64 2)).setCell ⟨w.heap.size + 1, 1, none⟩ (.slice (some ⟨w7.heap.size, 0, none⟩) 4 4)).alloc (.cells #[.int .i64 id, .int .i64 y0, .int .i64 y1, .int .i64 y2] 3)) := (by (try change Rch rb _ _); repeat (first | (with_reducible exact Xw7) | (with_reducible apply Rch.alloc) | (with_reducible refine Rch.set ?_ (by first | assumption | (simp <;> omega) | omega) _)))
   exact ⟨2, [id, y0, y1, y2], _, _, rfl, Lib.hid ⟨by omega, rfl⟩, (by simp), hO.lower (by omega), fR, fC⟩
  ·
   skip
   go_wp2_with fail
   have hO : OwnI (((w4.setCell ⟨w.heap.size + 1, 0, none⟩ (.int .i64 3)).setCell ⟨w.heap.size + 1, 1, none⟩ (.slice (some ⟨w4.heap.size, 0, none⟩) 1 1)).alloc (.cells #[.int .i64 id] 3)) w4.heap.size (.slice (some ⟨w4.heap.size, 0, none⟩) 1 1) [id] := by simpa using lita1 ((w4.setCell ⟨w.heap.size + 1, 0, none⟩ (.int .i64 3)).setCell ⟨w.heap.size + 1, 1, none⟩ (.slice (some ⟨w4.heap.size, 0, none⟩) 1 1)) id
   refine bodyPost_ret (v := .agg #[.int .i64 (3 : Int), .slice (some ⟨w4.heap.size, 0, none⟩) 1 1]) (by simp only [results, Try.results65]; go_simp) rfl ?_
   have fR : Rd (((w4.setCell ⟨w.heap.size + 1, 0, none⟩ (.int .i64 3)).setCell ⟨w.heap.size + 1, 1, none⟩ (.slice (some ⟨w4.heap.size, 0, none⟩) 1 1)).alloc (.cells #[.int .i64 id] 3)) rb (k + 10) := Rd.mono (by repeat (first | (with_reducible exact Rw4) | (with_reducible apply Rd.alloc) | ((with_reducible apply Rd.set2); (· first | assumption | (simp; omega) | (simp; done) | omega)))) (by omega)
   have fC : Chg rb (rb + 1) w (((w4.setCell ⟨w.heap.size + 1, 0, none⟩ (.int .i64 3)).setCell ⟨w.heap.size + 1, 1, none⟩ (.slice (some ⟨w4.heap.size, 0, none⟩) 1 1)).alloc (.cells #[.int .i64 id] 3)) := (by (try change Rch rb _ _); repeat (first | (with_reducible exact Xw4) | (with_reducible apply Rch.alloc) | (with_reducible refine Rch.set ?_ (by first | assumption | (simp <;> omega) | omega) _)))
   exact ⟨3, [id], _, _, rfl, Lib.hid ⟨by omega, rfl⟩, (by simp), hO.lower (by omega), fR, fC⟩
  ·
   skip
   go_wp2_with fail
   refine (pick1_c 100 _ _ _ Rw4 (by omega) (by omega)).mono ?_
   rintro e w5 ⟨y0, rfl, hy0, Rw5, Cw5⟩
   have zc_w5 := Cw5.size
   have Xw5 : Rch rb w w5 := Rch.step (Xw4) Cw5
   replace b0 := Cw5.cell (by omega) b0
   replace b1 := Cw5.cell (by omega) b1
   replace q0 := Cw5.cell (by omega) q0
   replace f_q0 := Cw5.frzO (by omega) (by omega) f_q0
   replace q1 := Cw5.cell (by omega) q1
   replace f_q1 := Cw5.frzO (by omega) (by omega) f_q1
   have z_b : w.heap.size < w5.heap.size := qB b0
   have z_q : w.heap.size + 1 < w5.heap.size := qB q0
   replace B := B.chg Cw5 (by omega)
   have s_w5 : w.heap.size ≤ w5.heap.size := Xw5.size
   clear Rw4 Cw5
   go_wp2_with fail
   have hO : OwnI (((w5.setCell ⟨w.heap.size + 1, 0, none⟩ (.int .i64 4)).setCell ⟨w.heap.size + 1, 1, none⟩ (.slice (some ⟨w5.heap.size, 0, none⟩) 2 2)).alloc (.cells #[.int .i64 id, .int .i64 y0] 3)) w5.heap.size (.slice (some ⟨w5.heap.size, 0, none⟩) 2 2) [id, y0] := by simpa using lita2 ((w5.setCell ⟨w.heap.size + 1, 0, none⟩ (.int .i64 4)).setCell ⟨w.heap.size + 1, 1, none⟩ (.slice (some ⟨w5.heap.size, 0, none⟩) 2 2)) id y0
   refine bodyPost_ret (v := .agg #[.int .i64 (4 : Int), .slice (some ⟨w5.heap.size, 0, none⟩) 2 2]) (by simp only [results, Try.results65]; go_simp) rfl ?_
   have fR : Rd (((w5.setCell ⟨w.heap.size + 1, 0, none⟩ (.int .i64 4)).setCell ⟨w.heap.size + 1, 1, none⟩ (.slice (some ⟨w5.heap.size, 0, none⟩) 2 2)).alloc (.cells #[.int .i64 id, .int .i64 y0] 3)) rb (k + 10) := Rd.mono (by repeat (first | (with_reducible exact Rw5) | (with_reducible apply Rd.alloc) | ((with_reducible apply Rd.set2); (· first | assumption | (simp; omega) | (simp; done) | omega)))) (by omega)
   have fC : Chg rb (rb + 1) w (((w5.setCell ⟨w.heap.size + 1, 0, none⟩ (.int .i64 4)).setCell ⟨w.heap.size + 1, 1, none⟩ (.slice (some ⟨w5.heap.size, 0, none⟩) 2 2)).alloc (.cells #[.int .i64 id, .int .i64 y0] 3)) := (by (try change Rch rb _ _); repeat (first | (with_reducible exact Xw5) | (with_reducible apply Rch.alloc) | (with_reducible refine Rch.set ?_ (by first | assumption | (simp <;> omega) | omega) _)))
   exact ⟨4, [id, y0], _, _, rfl, Lib.hid ⟨by omega, rfl⟩, (by simp), hO.lower (by omega), fR, fC⟩
  ·
   skip
   go_wp2_with fail
   refine (pick_c ((es.length : Int) + 1) _ _ _ Rw4 (by omega)).mono ?_
   rintro e w5 ⟨y0, rfl, hy0, Rw5, Cw5⟩
   have zc_w5 := Cw5.size
   have Xw5 : Rch rb w w5 := Rch.step (Xw4) Cw5
   replace b0 := Cw5.cell (by omega) b0
   replace b1 := Cw5.cell (by omega) b1
   replace q0 := Cw5.cell (by omega) q0
   replace f_q0 := Cw5.frzO (by omega) (by omega) f_q0
   replace q1 := Cw5.cell (by omega) q1
   replace f_q1 := Cw5.frzO (by omega) (by omega) f_q1
   have z_b : w.heap.size < w5.heap.size := qB b0
   have z_q : w.heap.size + 1 < w5.heap.size := qB q0
   replace B := B.chg Cw5 (by omega)
   have s_w5 : w.heap.size ≤ w5.heap.size := Xw5.size
   clear Rw4 Cw5
   go_wp2_with fail
   have hO : OwnI (((w5.setCell ⟨w.heap.size + 1, 0, none⟩ (.int .i64 5)).setCell ⟨w.heap.size + 1, 1, none⟩ (.slice (some ⟨w5.heap.size, 0, none⟩) 2 2)).alloc (.cells #[.int .i64 id, .int .i64 y0] 3)) w5.heap.size (.slice (some ⟨w5.heap.size, 0, none⟩) 2 2) [id, y0] := by simpa using lita2 ((w5.setCell ⟨w.heap.size + 1, 0, none⟩ (.int .i64 5)).setCell ⟨w.heap.size + 1, 1, none⟩ (.slice (some ⟨w5.heap.size, 0, none⟩) 2 2)) id y0
   refine bodyPost_ret (v := .agg #[.int .i64 (5 : Int), .slice (some ⟨w5.heap.size, 0, none⟩) 2 2]) (by simp only [results, Try.results65]; go_simp) rfl ?_
   have fR : Rd (((w5.setCell ⟨w.heap.size + 1, 0, none⟩ (.int .i64 5)).setCell ⟨w.heap.size + 1, 1, none⟩ (.slice (some ⟨w5.heap.size, 0, none⟩) 2 2)).alloc (.cells #[.int .i64 id, .int .i64 y0] 3)) rb (k + 10) := Rd.mono (by repeat (first | (with_reducible exact Rw5) | (with_reducible apply Rd.alloc) | ((with_reducible apply Rd.set2); (· first | assumption | (simp; omega) | (simp; done) | omega)))) (by omega)
   have fC : Chg rb (rb + 1) w (((w5.setCell ⟨w.heap.size + 1, 0, none⟩ (.int .i64 5)).setCell ⟨w.heap.size + 1, 1, none⟩ (.slice (some ⟨w5.heap.size, 0, none⟩) 2 2)).alloc (.cells #[.int .i64 id, .int .i64 y0] 3)) := (by (try change Rch rb _ _); repeat (first | (with_reducible exact Xw5) | (with_reducible apply Rch.alloc) | (with_reducible refine Rch.set ?_ (by first | assumption | (simp <;> omega) | omega) _)))
   exact ⟨5, [id, y0], _, _, rfl, Lib.hid ⟨by omega, rfl⟩, (by simp), hO.lower (by omega), fR, fC⟩
  ·
   skip
   go_wp2_with fail
   have hO : OwnI (((w4.setCell ⟨w.heap.size + 1, 0, none⟩ (.int .i64 6)).setCell ⟨w.heap.size + 1, 1, none⟩ (.slice (some ⟨w4.heap.size, 0, none⟩) 1 1)).alloc (.cells #[.int .i64 id] 3)) w4.heap.size (.slice (some ⟨w4.heap.size, 0, none⟩) 1 1) [id] := by simpa using lita1 ((w4.setCell ⟨w.heap.size + 1, 0, none⟩ (.int .i64 6)).setCell ⟨w.heap.size + 1, 1, none⟩ (.slice (some ⟨w4.heap.size, 0, none⟩) 1 1)) id
   refine bodyPost_ret (v := .agg #[.int .i64 (6 : Int), .slice (some ⟨w4.heap.size, 0, none⟩) 1 1]) (by simp only [results, Try.results65]; go_simp) rfl ?_
   have fR : Rd (((w4.setCell ⟨w.heap.size + 1, 0, none⟩ (.int .i64 6)).setCell ⟨w.heap.size + 1, 1, none⟩ (.slice (some ⟨w4.heap.size, 0, none⟩) 1 1)).alloc (.cells #[.int .i64 id] 3)) rb (k + 10) := Rd.mono (by repeat (first | (with_reducible exact Rw4) | (with_reducible apply Rd.alloc) | ((with_reducible apply Rd.set2); (· first | assumption | (simp; omega) | (simp; done) | omega)))) (by omega)
   have fC : Chg rb (rb + 1) w (((w4.setCell ⟨w.heap.size + 1, 0, none⟩ (.int .i64 6)).setCell ⟨w.heap.size + 1, 1, none⟩ (.slice (some ⟨w4.heap.size, 0, none⟩) 1 1)).alloc (.cells #[.int .i64 id] 3)) := (by (try change Rch rb _ _); repeat (first | (with_reducible exact Xw4) | (with_reducible apply Rch.alloc) | (with_reducible refine Rch.set ?_ (by first | assumption | (simp <;> omega) | omega) _)))
   exact ⟨6, [id], _, _, rfl, Lib.hid ⟨by omega, rfl⟩, (by simp), hO.lower (by omega), fR, fC⟩
  ·
   skip
   go_wp2_with fail
   have hO : OwnI (((w4.setCell ⟨w.heap.size + 1, 0, none⟩ (.int .i64 7)).setCell ⟨w.heap.size + 1, 1, none⟩ (.slice (some ⟨w4.heap.size, 0, none⟩) 1 1)).alloc (.cells #[.int .i64 id] 3)) w4.heap.size (.slice (some ⟨w4.heap.size, 0, none⟩) 1 1) [id] := by simpa using lita1 ((w4.setCell ⟨w.heap.size + 1, 0, none⟩ (.int .i64 7)).setCell ⟨w.heap.size + 1, 1, none⟩ (.slice (some ⟨w4.heap.size, 0, none⟩) 1 1)) id
   refine bodyPost_ret (v := .agg #[.int .i64 (7 : Int), .slice (some ⟨w4.heap.size, 0, none⟩) 1 1]) (by simp only [results, Try.results65]; go_simp) rfl ?_
   have fR : Rd (((w4.setCell ⟨w.heap.size + 1, 0, none⟩ (.int .i64 7)).setCell ⟨w.heap.size + 1, 1, none⟩ (.slice (some ⟨w4.heap.size, 0, none⟩) 1 1)).alloc (.cells #[.int .i64 id] 3)) rb (k + 10) := Rd.mono (by repeat (first | (with_reducible exact Rw4) | (with_reducible apply Rd.alloc) | ((with_reducible apply Rd.set2); (· first | assumption | (simp; omega) | (simp; done) | omega)))) (by omega)
   have fC : Chg rb (rb + 1) w (((w4.setCell ⟨w.heap.size + 1, 0, none⟩ (.int .i64 7)).setCell ⟨w.heap.size + 1, 1, none⟩ (.slice (some ⟨w4.heap.size, 0, none⟩) 1 1)).alloc (.cells #[.int .i64 id] 3)) := (by (try change Rch rb _ _); repeat (first | (with_reducible exact Xw4) | (with_reducible apply Rch.alloc) | (with_reducible refine Rch.set ?_ (by first | assumption | (simp <;> omega) | omega) _)))
   exact ⟨7, [id], _, _, rfl, Lib.hid ⟨by omega, rfl⟩, (by simp), hO.lower (by omega), fR, fC⟩

end Go.Proofs.Ytgklaobfikbiiaa

/- Walks: new buffers, acts of all kinds. -/
namespace Go.Proofs.Ytgklaobfikbiiaa
open Go.RowKit
set_option linter.unusedVariables false
set_option maxRecDepth 100000


/-- a buffer whose rows are not the block g -/
structure BufA (w : World) (lo g : Nat) (cv ev : Value) (cells : List Int) (es : List Exp) (R : Nat → Value) : Prop where
  buf : BufR w lo cv ev cells es R
  loc : BufAt (fun x => x ≠ g) cv ev cells es R
section
variable {w w' : World} {lo lo' g : Nat} {cv ev : Value} {cells : List Int} {es : List Exp} {R : Nat → Value}
theorem BufA.ext (h : BufA w lo g cv ev cells es R) (hx : Ext w w') : BufA w' lo g cv ev cells es R := ⟨h.buf.ext hx, h.loc⟩
theorem BufA.lower (h : BufA w lo g cv ev cells es R) (hl : lo' ≤ lo) : BufA w lo' g cv ev cells es R := ⟨h.buf.lower hl, h.loc⟩
theorem BufA.chg {l hi : Nat} (h : BufA w lo g cv ev cells es R) (k : Chg l hi w w') (hb : hi ≤ lo ∨ (l = g ∧ hi = g + 1)) : BufA w' lo g cv ev cells es R := by
  rcases hb with hb | ⟨rfl, rfl⟩
  · exact ⟨h.buf.chg k hb, h.loc⟩
  · exact ⟨h.buf.chgO h.loc k (fun x hx => by omega), h.loc⟩
theorem BufA.of (h : BufR w lo cv ev cells es R) (hg : g < lo ∨ w.heap.size ≤ g) : BufA w lo g cv ev cells es R := by
  have q := h.at
  refine ⟨h, fun a x b => ?_, fun x b => ?_, fun p hp hs x b => ?_⟩
  · have := q.c a x b; omega
  · have := q.e x b; omega
  · have := q.r p hp hs x b; omega
theorem BufA.ints (h : BufA w lo g cv ev cells es R) : Ints w lo cv cells := h.buf.ints
theorem BufA.exps (h : BufA w lo g cv ev cells es R) : Exps w lo ev es := h.buf.exps
end
/-- a buffer comes back, in rows of its own -/
def PNewB (cells : List Int) (w : World) (e : Ending) (w' : World) : Prop := ∃ cv ev R, e = .returned (.agg #[cv, ev]) ∧ BufR w' w.heap.size cv ev cells [] R ∧ Ext w w'

set_option maxHeartbeats 3200000 in
theorem newBuffer_c (n : Nat) (w : World) (hn : n ≤ 60) :
    Calls Try.prog 63 #[.int .i64 (n : Int)] w (PNewB (List.replicate n 0) w) := by
  have hin : Hid (inB 0 60 (n : Int) = true) := Lib.hid (by unfold inB; simp; omega)
  go_enter Try.func63, Try.ntmps63
  go_wp2_with fail
  refine (inRange_c (n : Int) 0 60 _).mono ?_
  rintro e w' ⟨rfl, rfl⟩
  rw [hin.out]
  go_upto_region 3 with fail
  generalize hW1 : w.alloc (.cells #[.slice none 0 0, .slice none 0 0] 26) = w1 at *
  have Lw1 : Ext w w1 := by subst hW1; exact qXt
  have Xw1 : Ext w w1 := by subst hW1; exact Lw1
  have b10 : w1.cell? ⟨w.heap.size, 0, none⟩ = some (.slice none 0 0) := by subst hW1; exact qCl
  have b11 : w1.cell? ⟨w.heap.size, 1, none⟩ = some (.slice none 0 0) := by subst hW1; exact qCl
  have f_b10 : w1.frozen? ⟨w.heap.size, 0, none⟩ = false := by subst hW1; exact qFz
  have f_b11 : w1.frozen? ⟨w.heap.size, 1, none⟩ = false := by subst hW1; exact qFz
  have z_b1 : w.heap.size < w1.heap.size := qB b10
  have s_w1 : w.heap.size ≤ w1.heap.size := Xw1.size
  clear hW1
  have Q2_b10 := Lib.hid b10
  have Q2_f_b10 := Lib.hid f_b10
  have Q2_b11 := Lib.hid b11
  have Q2_f_b11 := Lib.hid f_b11
  have Q2_zb1 := z_b1
  have BL3 : Ext w1 w1 := Ext.refl _
  obtain ⟨i0mk4, himk4, hz0mk4, hz1mk4, hz2mk4⟩ := info_parts infoInt
  go_wp2_with (at_make; refine wpList_make_full _ rfl _ _ 23 rfl w1.heap.size 3 i0mk4 (.int .i64 0) 1 Try.underlying23 himk4 hz0mk4 hz1mk4 .i64 .i64 _ _ n rfl rfl rfl rfl (by rw [hz2mk4]; omega) (by unfold maxLen; omega) (Nat.le_refl _) ?_)
  intro w2 hown7 hgr7
  have xw2 : Ext w1 w2 := (Ext.refl w1).grown hgr7 (by simp)
  rw [made_ints] at hown7
  clear hgr7
  have O5 : OwnI w2 w1.heap.size (.slice (some ⟨w1.heap.size, 0, none⟩) n n) (List.replicate n 0) := by unfold OwnI; simpa using hown7
  clear hown7 himk4 hz0mk4 hz1mk4 hz2mk4
  have Lw2 : Ext w1 w2 := Ext.trans qXt xw2
  have Xw2 : Ext w w2 := Xw1.trans Lw2
  replace b10 := Lw2.cell b10
  replace b11 := Lw2.cell b11
  replace f_b10 := Lw2.frz z_b1 f_b10
  replace f_b11 := Lw2.frz z_b1 f_b11
  have z_b1 : w.heap.size < w2.heap.size := qB b10
  have s_w2 : w.heap.size ≤ w2.heap.size := Xw2.size
  have BL3_w2 : Ext w1 w2 := BL3.trans Lw2
  clear xw2
  skip
  go_wp2_with fail
  generalize hW2 : ((w2.setCell ⟨w.heap.size, 0, none⟩ (.slice (some ⟨w1.heap.size, 0, none⟩) n n)).setCell ⟨w.heap.size, 1, none⟩ (.slice none 0 0)) = w3 at *
  have Kw3 : Chg (w.heap.size) (w.heap.size + 1) w2 w3 := by subst hW2; exact qCh
  have Xw3 : Ext w w3 := by subst hW2; exact qXt
  replace b10 : w3.cell? ⟨w.heap.size, 0, none⟩ = some (.slice (some ⟨w1.heap.size, 0, none⟩) n n) := by subst hW2; go_simp
  replace f_b10 : w3.frozen? ⟨w.heap.size, 0, none⟩ = false := by subst hW2; first | (simp only [World.frozen?_setCell]; with_reducible assumption) | go_simp
  replace b11 : w3.cell? ⟨w.heap.size, 1, none⟩ = some (.slice none 0 0) := by subst hW2; go_simp
  replace f_b11 : w3.frozen? ⟨w.heap.size, 1, none⟩ = false := by subst hW2; first | (simp only [World.frozen?_setCell]; with_reducible assumption) | go_simp
  replace O5 := O5.chgN Kw3 (by omega)
  clear Kw3
  have z_b1 : w.heap.size < w3.heap.size := qB b10
  have s_w3 : w.heap.size ≤ w3.heap.size := Xw3.size
  clear hW2
  refine bodyPost_ret (v := .agg #[.slice (some ⟨w1.heap.size, 0, none⟩) n n, .slice none 0 0]) (by simp only [results, Try.results63]; go_simp) rfl ?_
  exact ⟨_, _, _, rfl, ((BufR.nil w3 w3.heap.size).cellsB (lo2 := w.heap.size) (by omega) ((O5.lower (base' := w.heap.size) (by omega)).z) (CapZ.same (by rw [List.length_replicate])) (by simp only [List.length_replicate]; omega) (fun _ g7 hg7 => (own_lt O5 hg7).2)).ext qXt, (Xw3.trans qXt)⟩


/-- an act of any kind, with its numbers -/
theorem apply_c (kd : Nat) (cells : List Int) (es : List Exp) (cv ev : Value) (ns : List Int) (nv : Value) (w : World) (l1 l2 : Nat) (h1 : Ints w l1 cv cells) (h2 : Exps w l2 ev es) (hv : bufB cells es = true) (l3 : Nat) (h3 : Ints w l3 nv ns) (hk : kd ≤ 7 ∧ needN kd = ns.length) :
    Calls Try.prog 64 #[.agg #[cv, ev], .agg #[.int .i64 (kd : Int), nv]] w (PApp cv ev cells es w) := by
  obtain ⟨hk7, hn⟩ := hk
  match kd, hk7, hn with
  | 0, _, hn => exact apply_0 cells es cv ev ns nv w l1 l2 h1 h2 hv l3 h3 (by simp [needN] at hn; omega)
  | 1, _, hn => exact apply_1 cells es cv ev ns nv w l1 l2 h1 h2 hv l3 h3 (by simp [needN] at hn; omega)
  | 2, _, hn => exact apply_2 cells es cv ev ns nv w l1 l2 h1 h2 hv l3 h3 (by simp [needN] at hn; omega)
  | 3, _, hn => exact apply_3 cells es cv ev ns nv w l1 l2 h1 h2 hv l3 h3 (by simp [needN] at hn; omega)
  | 4, _, hn => exact apply_4 cells es cv ev ns nv w l1 l2 h1 h2 hv l3 h3 (by simp [needN] at hn; omega)
  | 5, _, hn => exact apply_5 cells es cv ev ns nv w l1 l2 h1 h2 hv l3 h3 (by simp [needN] at hn; omega)
  | 6, _, hn => exact apply_6 cells es cv ev ns nv w l1 l2 h1 h2 hv l3 h3 (by simp [needN] at hn; omega)
  | 7, _, hn => exact apply_7 cells es cv ev ns nv w l1 l2 h1 h2 hv l3 h3 (by simp [needN] at hn; omega)


end Go.Proofs.Ytgklaobfikbiiaa

/- Walks: drawn values for a view of a memory. -/
namespace Go.Proofs.Ytgklaobfikbiiaa
open Go.RowKit
set_option linter.unusedVariables false
set_option maxRecDepth 100000

end Go.Proofs.Ytgklaobfikbiiaa

/- Walks: a view and an index are drawn. -/
namespace Go.Proofs.Ytgklaobfikbiiaa
open Go.RowKit
set_option linter.unusedVariables false
set_option maxRecDepth 100000

end Go.Proofs.Ytgklaobfikbiiaa

/- Walks: a view and a shape are drawn. -/
namespace Go.Proofs.Ytgklaobfikbiiaa
open Go.RowKit
set_option linter.unusedVariables false
set_option maxRecDepth 100000

end Go.Proofs.Ytgklaobfikbiiaa

/- Regions with a tail: reads taken first although the last operations wait for them only by others; operations that read nothing. -/
namespace Go.Proofs.Ytgklaobfikbiiaa
open Go
set_option linter.unusedVariables false
section
variable {P : Program} {ops : Array Oper} {Q : Exit → Act → World → Prop} {md : Region.Mode} {S : World → Prop} {tl : Nat → Bool}
/-- what is listed has all that it waits for listed -/
def closedB (md : Region.Mode) (ops : Array Oper) (listed : Array Bool) : Bool :=
  (List.range ops.size).all fun k => !(listed.getD k false) || (match ops[k]? with | some o => o.after.toList.all fun e => !(Region.binds md e) || listed.getD e.on false | none => true)
/-- j waits for i, by others -/
def reachB (md : Region.Mode) (ops : Array Oper) (i : Nat) : Nat → Nat → Bool
  | 0, _ => false
  | n + 1, j => match ops[j]? with | some o => o.after.toList.any fun e => Region.binds md e && (e.on == i || reachB md ops i n e.on) | none => false
def waitsT (md : Region.Mode) (ops : Array Oper) (tl : Nat → Bool) (i : Nat) : Bool := (List.range ops.size).all fun j => !tl j || reachB md ops i ops.size j

theorem closed_at {listed : Array Bool} (h : closedB md ops listed = true) {k : Nat} {o : Oper} (ho : ops[k]? = some o) (hk : listed.getD k false = true) :
    ∀ e ∈ o.after, Region.binds md e = true → listed.getD e.on false = true := by
  intro e he hb
  unfold closedB at h
  rw [List.all_eq_true] at h
  have h1 := h k (List.mem_range.2 (Array.getElem?_eq_some_iff.1 ho).1)
  rw [hk, ho] at h1
  simp only [Bool.not_true, Bool.false_or, List.all_eq_true] at h1
  have h2 := h1 e (by simpa using he)
  rw [hb] at h2; simpa using h2

theorem reach_listed {listed : Array Bool} (hc : closedB md ops listed = true) {i : Nat} : ∀ (n j : Nat) (o : Oper), ops[j]? = some o → (∀ e ∈ o.after, Region.binds md e = true → listed.getD e.on false = true) → reachB md ops i n j = true → listed.getD i false = true := by
  intro n
  induction n with
  | zero => intro j o ho hl h; simp [reachB] at h
  | succ n ih =>
    intro j o ho hl h
    unfold reachB at h
    rw [ho] at h
    simp only [List.any_eq_true, Bool.and_eq_true, Bool.or_eq_true, beq_iff_eq] at h
    obtain ⟨e, he, hb, h1⟩ := h
    have h2 := hl e (by simpa using he) hb
    rcases h1 with h1 | h1
    · rw [← h1]; exact h2
    · cases n with
      | zero => simp [reachB] at h1
      | succ n =>
        cases h3 : ops[e.on]? with
        | none => unfold reachB at h1; rw [h3] at h1; cases h1
        | some o2 => exact ih e.on o2 h3 (closed_at hc h3 h2) h1

theorem closed_set {listed : Array Bool} (hc : closedB md ops listed = true) {j : Nat} {o : Oper} (ho : ops[j]? = some o) (hl : ∀ e ∈ o.after, Region.binds md e = true → listed.getD e.on false = true) : closedB md ops (listed.setIfInBounds j true) = true := by
  have up : ∀ x, listed.getD x false = true → (listed.setIfInBounds j true).getD x false = true := by
    intro x hx
    by_cases hjx : j = x
    · subst hjx
      have h4 : j < listed.size := by
        rcases Nat.lt_or_ge j listed.size with h' | h'
        · exact h'
        · simp [Array.getElem?_eq_none h'] at hx
      simp [h4]
    · rw [getD_set_ne false hjx]; exact hx
  unfold closedB
  rw [List.all_eq_true]
  intro k hk
  cases h1 : (listed.setIfInBounds j true).getD k false with
  | false => rfl
  | true =>
    have hlt := List.mem_range.1 hk
    have h2 : ops[k]? = some ops[k] := Array.getElem?_eq_getElem hlt
    rw [h2]
    simp only [Bool.not_true, Bool.false_or, List.all_eq_true]
    intro e he
    cases hb : Region.binds md e with
    | false => rfl
    | true =>
      simp only [Bool.not_true, Bool.false_or]
      apply up
      by_cases hjk : j = k
      · subst hjk
        rw [ho] at h2
        obtain rfl := Option.some.inj h2
        exact hl e (by simpa using he) hb
      · rw [getD_set_ne false hjk] at h1
        exact closed_at hc h2 h1 e (by simpa using he) hb

theorem wpTail.firstT {i : Nat} {oi : Oper} {v : Value} (hi : ops[i]? = some oi) (hsel : ∀ (j : Nat) (o : Oper) cs b, ops[j]? = some o → o.op ≠ .select cs b)
    (hQ : ∀ c a w, Q (.panic c) (a.put oi.dst v) w → Q (.panic c) a w) (hti : tl i = false) (hwt : waitsT md ops tl i = true) :
    ∀ (n : Nat) (listed : Array Bool) (a : Act) (w : World), closedB md ops listed = true →
      (∀ j oj, ops[j]? = some oj → j ≠ i → listed.getD j true = false → (∀ e ∈ oj.after, Region.binds md e = true → e.on ≠ i) → oi.apart ops oj = true) →
      i ∈ Region.ready md ops listed → YieldsIf P ops S oi v a → S w →
      wpTail P md ops Q S tl n (listed.setIfInBounds i true) (a.put oi.dst v) w → wpTail P md ops Q S tl (n + 1) listed a w := by
  intro n
  induction n with
  | zero =>
    intro listed a w _ _ hr hy hS H
    refine ⟨fun h => (by rw [h] at hr; cases hr), fun j hj => ?_⟩
    by_cases hji : j = i
    · subst hji; exact hy.wpOp hi hS ⟨fun _ => hS, H⟩
    · have h0 := ready_mono hj hji
      rw [H.1] at h0
      cases h0
  | succ n ih =>
    intro listed a w hc hfree hr hy hS H
    refine ⟨fun h => (by rw [h] at hr; cases hr), fun j hj => ?_⟩
    by_cases hji : j = i
    · subst hji; exact hy.wpOp hi hS ⟨fun _ => hS, H⟩
    · have h1 := H.2 j (ready_mono hj hji)
      obtain ⟨hjun, oj, hoj, hall⟩ := mem_ready.1 hj
      have hnot : ∀ e ∈ oj.after, Region.binds md e = true → e.on ≠ i := fun e he hb heq => by
        have h3 := hall e he hb
        have h4 := (mem_ready.1 hr).1
        rw [heq] at h3
        rcases Nat.lt_or_ge i listed.size with h' | h'
        · simp [h'] at h3 h4; rw [h4] at h3; cases h3
        · simp [Array.getElem?_eq_none h'] at h3
      have htj : tl j = false := by
        cases ht : tl j with
        | false => rfl
        | true =>
          have hlt := (Array.getElem?_eq_some_iff.1 hoj).1
          unfold waitsT at hwt
          rw [List.all_eq_true] at hwt
          have h5 := hwt j (List.mem_range.2 hlt)
          rw [ht] at h5
          have h3 := reach_listed hc _ j oj hoj hall (by simpa using h5)
          have h4 := (mem_ready.1 hr).1
          rcases Nat.lt_or_ge i listed.size with h' | h'
          · simp [h'] at h3 h4; rw [h4] at h3; cases h3
          · simp [Array.getElem?_eq_none h'] at h3
      have h2 := wpOp_putIf hoj (hfree j oj hoj hji hjun hnot) (fun cs b => hsel i oi cs b hi) (fun cs b => hsel j oj cs b hoj) hQ hy h1
      have hfree' : ∀ k ok, ops[k]? = some ok → k ≠ i → (listed.setIfInBounds j true).getD k true = false →
          (∀ e ∈ ok.after, Region.binds md e = true → e.on ≠ i) → oi.apart ops ok = true := fun k ok hk hki hun hno => by
        refine hfree k ok hk hki ?_ hno
        by_cases hjk : j = k
        · subst hjk; exact hjun
        · rw [getD_set_ne true hjk] at hun; exact hun
      refine wpOp_mono (fun a' w' h3 => ⟨h3.2.1, ih (listed.setIfInBounds j true) a' w' (closed_set hc hoj hall) hfree' (ready_mono hr (Ne.symm hji)) h3.1 (h3.2.1 htj) ?_⟩) h2
      rw [Array.setIfInBounds_comm _ _ hji]
      exact h3.2.2

/-- an operation that reads nothing, one that the condition need not outlast -/
theorem wpTail.firstP {i : Nat} {oi : Oper} {v : Value} (hi : ops[i]? = some oi) (hsel : ∀ (j : Nat) (o : Oper) cs b, ops[j]? = some o → o.op ≠ .select cs b)
    (hQ : ∀ c a w, Q (.panic c) (a.put oi.dst v) w → Q (.panic c) a w) (hti : tl i = true) :
    ∀ (n : Nat) (listed : Array Bool) (a : Act) (w : World),
      (∀ j oj, ops[j]? = some oj → j ≠ i → listed.getD j true = false → (∀ e ∈ oj.after, Region.binds md e = true → e.on ≠ i) → oi.apart ops oj = true) →
      i ∈ Region.ready md ops listed → YieldsIf P ops (fun _ => True) oi v a →
      wpTail P md ops Q S tl n (listed.setIfInBounds i true) (a.put oi.dst v) w → wpTail P md ops Q S tl (n + 1) listed a w := by
  intro n
  induction n with
  | zero =>
    intro listed a w _ hr hy H
    refine ⟨fun h => (by rw [h] at hr; cases hr), fun j hj => ?_⟩
    by_cases hji : j = i
    · subst hji; exact hy.wpOp hi trivial ⟨fun h => (by rw [hti] at h; cases h), H⟩
    · have h0 := ready_mono hj hji
      rw [H.1] at h0
      cases h0
  | succ n ih =>
    intro listed a w hfree hr hy H
    refine ⟨fun h => (by rw [h] at hr; cases hr), fun j hj => ?_⟩
    by_cases hji : j = i
    · subst hji; exact hy.wpOp hi trivial ⟨fun h => (by rw [hti] at h; cases h), H⟩
    · have h1 := H.2 j (ready_mono hj hji)
      obtain ⟨hjun, oj, hoj, hall⟩ := mem_ready.1 hj
      have hnot : ∀ e ∈ oj.after, Region.binds md e = true → e.on ≠ i := fun e he hb heq => by
        have h3 := hall e he hb
        have h4 := (mem_ready.1 hr).1
        rw [heq] at h3
        rcases Nat.lt_or_ge i listed.size with h' | h'
        · simp [h'] at h3 h4; rw [h4] at h3; cases h3
        · simp [Array.getElem?_eq_none h'] at h3
      have h2 := wpOp_putIf hoj (hfree j oj hoj hji hjun hnot) (fun cs b => hsel i oi cs b hi) (fun cs b => hsel j oj cs b hoj) hQ hy h1
      have hfree' : ∀ k ok, ops[k]? = some ok → k ≠ i → (listed.setIfInBounds j true).getD k true = false →
          (∀ e ∈ ok.after, Region.binds md e = true → e.on ≠ i) → oi.apart ops ok = true := fun k ok hk hki hun hno => by
        refine hfree k ok hk hki ?_ hno
        by_cases hjk : j = k
        · subst hjk; exact hjun
        · rw [getD_set_ne true hjk] at hun; exact hun
      refine wpOp_mono (fun a' w' h3 => ⟨h3.2.1, ih (listed.setIfInBounds j true) a' w' hfree' (ready_mono hr (Ne.symm hji)) h3.1 ?_⟩) h2
      rw [Array.setIfInBounds_comm _ _ hji]
      exact h3.2.2
theorem qTt {oi : Oper} {v : Value} {n : Nat} {listed : Array Bool} {a : Act} {w : World} (i : Nat) (hi : ops[i]? = some oi) (hy : YieldsIf P ops S oi v a)
    (h : wpTail P md ops Q S tl n (listed.setIfInBounds i true) (a.put oi.dst v) w)
    (hs : Region.noSelect ops = true := by kernel_rfl) (hc : closedB md ops listed = true := by kernel_rfl) (hf : Region.free md ops listed i = true := by kernel_rfl) (hr : (Region.ready md ops listed).contains i = true := by kernel_rfl) (hti : tl i = false := by rfl) (hwt : waitsT md ops tl i = true := by kernel_rfl)
    (hQ : ∀ c a w, Q (.panic c) (a.put oi.dst v) w → Q (.panic c) a w := by exact fun _ _ _ h => h) (hS : S w := by assumption) :
    wpTail P md ops Q S tl (n + 1) listed a w := wpTail.firstT hi (Region.noSelect_spec hs) hQ hti hwt n listed a w hc (Region.free_spec hi hf) (by simpa using hr) hy hS h
theorem qTp {oi : Oper} {v : Value} {n : Nat} {listed : Array Bool} {a : Act} {w : World} (i : Nat) (hi : ops[i]? = some oi) (hy : YieldsIf P ops (fun _ => True) oi v a)
    (h : wpTail P md ops Q S tl n (listed.setIfInBounds i true) (a.put oi.dst v) w)
    (hs : Region.noSelect ops = true := by kernel_rfl) (hf : Region.free md ops listed i = true := by kernel_rfl) (hr : (Region.ready md ops listed).contains i = true := by kernel_rfl) (hti : tl i = true := by rfl)
    (hQ : ∀ c a w, Q (.panic c) (a.put oi.dst v) w → Q (.panic c) a w := by exact fun _ _ _ h => h) :
    wpTail P md ops Q S tl (n + 1) listed a w := wpTail.firstP hi (Region.noSelect_spec hs) hQ hti n listed a w (Region.free_spec hi hf) (by simpa using hr) hy h
end
end Go.Proofs.Ytgklaobfikbiiaa

/- Walks: a valid buffer is drawn. -/
namespace Go.Proofs.Ytgklaobfikbiiaa
open Go.RowKit
set_option linter.unusedVariables false
set_option maxRecDepth 100000

/-- a valid buffer comes back -/
def PGood (rb k : Nat) (w : World) (e : Ending) (w' : World) : Prop := ∃ cv ev cells es R, e = .returned (.agg #[cv, ev]) ∧ bufB cells es = true ∧ BufR w' w.heap.size cv ev cells es R ∧ Rd w' rb k ∧ Chg rb (rb + 1) w w'
set_option maxHeartbeats 6400000 in
theorem goodBuffer_c (rb k : Nat) (w : World) (hr : Rd w rb k) (hk : k ≤ 400000) :
  Calls Try.prog 51 #[.pointer (some ⟨rb, 0, none⟩)] w (PGood rb (k + 100) w) := by
 have hlt := hr.lt
 go_enter Try.func51, Try.ntmps51
 go_wp2_with fail
 generalize hW1 : w.alloc (.cells #[.slice none 0 0, .slice none 0 0] 26) = w1 at *
 have zq1 : w.heap.size + 1 = w1.heap.size := by subst hW1; simp
 have Lw1 : Ext w w1 := by subst hW1; exact qXt
 have Xw1 : Rch rb w w1 := Rch.ext (Rch.refl rb w) Lw1
 replace hr := hr.ext Lw1
 have q0 : w1.cell? ⟨w.heap.size, 0, none⟩ = some (.slice none 0 0) := by subst hW1; exact qCl
 have q1 : w1.cell? ⟨w.heap.size, 1, none⟩ = some (.slice none 0 0) := by subst hW1; exact qCl
 have f_q0 : w1.frozen? ⟨w.heap.size, 0, none⟩ = false := by subst hW1; exact qFz
 have f_q1 : w1.frozen? ⟨w.heap.size, 1, none⟩ = false := by subst hW1; exact qFz
 have z_q : w.heap.size < w1.heap.size := qB q0
 have s_w1 : w.heap.size ≤ w1.heap.size := Xw1.size
 clear hW1
 refine (oneLit_c #[.int .i64 12, .int .i64 20, .int .i64 16, .int .i64 8, .int .i64 0] 5 _ _ _ _ hr (by omega) (by rfl) (by rfl) (by constructor <;> simp) (by first | rfl | exact zq1)).mono ?_
 rintro e w2 ⟨x0, rfl, hx0, Rw2, Cw2⟩
 have Ew2 : Ext w1 (w1.alloc (.cells #[.int .i64 12, .int .i64 20, .int .i64 16, .int .i64 8, .int .i64 0] 3)) := qXt
 have e_w2 := Ew2.size
 have zc_w2 := Cw2.size
 have Xw2 : Rch rb w w2 := Rch.step (Rch.ext Xw1 Ew2) Cw2
 replace q0 := Cw2.cell (by omega) (Ew2.cell q0)
 replace f_q0 := Cw2.frzO (by omega) (by omega) (Ew2.frz z_q f_q0)
 replace q1 := Cw2.cell (by omega) (Ew2.cell q1)
 replace f_q1 := Cw2.frzO (by omega) (by omega) (Ew2.frz z_q f_q1)
 have z_q : w.heap.size < w2.heap.size := qB q0
 have s_w2 : w.heap.size ≤ w2.heap.size := Xw2.size
 clear hr Cw2 Ew2
 clear zq1
 obtain ⟨n0, rfl, hn0⟩ : ∃ n0 : Nat, x0 = n0 ∧ n0 ≤ 60 := ⟨x0.toNat, by simp [litL] at hx0; omega, by simp [litL] at hx0; omega⟩
 clear hx0
 go_wp2_with fail
 refine (newBuffer_c n0 _ hn0).mono ?_
 rintro e w3 ⟨cv, ev, R, rfl, B, xw3⟩
 have Lw3 : Ext w2 w3 := Ext.trans qXt xw3
 have Xw3 : Rch rb w w3 := Rch.ext Xw2 Lw3
 replace Rw2 := Rw2.ext Lw3
 replace q0 := Lw3.cell q0
 replace q1 := Lw3.cell q1
 replace f_q0 := Lw3.frz z_q f_q0
 replace f_q1 := Lw3.frz z_q f_q1
 have z_q : w.heap.size < w3.heap.size := qB q0
 have s_w3 : w.heap.size ≤ w3.heap.size := Xw3.size
 clear xw3
 have hv0 : bufB (List.replicate n0 0) [] = true := bufB_iff.2 ⟨memB_iff.2 ⟨by rw [List.length_replicate]; exact hn0, fun x hx => by have := (List.mem_replicate.1 hx).2; omega⟩, Nat.zero_le _, fun i hi => absurd hi (Nat.not_lt_zero _)⟩
 replace B := BufA.of (g := w3.heap.size) (B.lower (lo' := w.heap.size + 1) (by omega)) (.inr (Nat.le_refl _))
 obtain ⟨cells0, hc0⟩ : ∃ c : List Int, c = List.replicate n0 0 := ⟨_, rfl⟩
 rw [← hc0] at B hv0
 clear hc0
 have hcl0 := B.ints.len
 obtain ⟨es0, hes0⟩ : ∃ es0 : List Exp, es0 = [] := ⟨_, rfl⟩
 rw [← hes0] at B hv0
 clear hes0
 replace hv0 := Lib.hid hv0
 have he0 := B.exps.len
 obtain ⟨p0, c0, rfl⟩ := B.ints.form
 obtain ⟨p1, c1, rfl⟩ := B.exps.form
 go_wp2_with fail
 generalize hW2 : w3.alloc (.cells #[.slice p0 cells0.length c0, .slice p1 es0.length c1] 26) = w4 at *
 have zq2 : w3.heap.size + 1 = w4.heap.size := by subst hW2; simp
 have Lw4 : Ext w3 w4 := by subst hW2; exact qXt
 have Xw4 : Rch rb w w4 := Rch.ext Xw3 Lw4
 replace Rw2 := Rw2.ext Lw4
 replace q0 := Lw4.cell q0
 replace q1 := Lw4.cell q1
 replace f_q0 := Lw4.frz z_q f_q0
 replace f_q1 := Lw4.frz z_q f_q1
 have b0 : w4.cell? ⟨w3.heap.size, 0, none⟩ = some (.slice p0 cells0.length c0) := by subst hW2; exact qCl
 have b1 : w4.cell? ⟨w3.heap.size, 1, none⟩ = some (.slice p1 es0.length c1) := by subst hW2; exact qCl
 have f_b0 : w4.frozen? ⟨w3.heap.size, 0, none⟩ = false := by subst hW2; exact qFz
 have f_b1 : w4.frozen? ⟨w3.heap.size, 1, none⟩ = false := by subst hW2; exact qFz
 have z_q : w.heap.size < w4.heap.size := qB q0
 have z_b : w3.heap.size < w4.heap.size := qB b0
 replace B := B.ext Lw4
 have s_w4 : w.heap.size ≤ w4.heap.size := Xw4.size
 clear hW2
 refine (oneLit_c #[.int .i64 5, .int .i64 4, .int .i64 6, .int .i64 3, .int .i64 8, .int .i64 0] 6 _ _ _ _ Rw2 (by omega) (by rfl) (by rfl) (by constructor <;> simp) (by first | rfl | exact zq2)).mono ?_
 rintro e w5 ⟨y0, rfl, hy0, Rw5, Cw5⟩
 have Ew5 : Ext w4 (w4.alloc (.cells #[.int .i64 5, .int .i64 4, .int .i64 6, .int .i64 3, .int .i64 8, .int .i64 0] 3)) := qXt
 have e_w5 := Ew5.size
 have zc_w5 := Cw5.size
 have Xw5 : Rch rb w w5 := Rch.step (Rch.ext Xw4 Ew5) Cw5
 replace q0 := Cw5.cell (by omega) (Ew5.cell q0)
 replace f_q0 := Cw5.frzO (by omega) (by omega) (Ew5.frz z_q f_q0)
 replace q1 := Cw5.cell (by omega) (Ew5.cell q1)
 replace f_q1 := Cw5.frzO (by omega) (by omega) (Ew5.frz z_q f_q1)
 replace b0 := Cw5.cell (by omega) (Ew5.cell b0)
 replace f_b0 := Cw5.frzO (by omega) (by omega) (Ew5.frz z_b f_b0)
 replace b1 := Cw5.cell (by omega) (Ew5.cell b1)
 replace f_b1 := Cw5.frzO (by omega) (by omega) (Ew5.frz z_b f_b1)
 have z_q : w.heap.size < w5.heap.size := qB q0
 have z_b : w3.heap.size < w5.heap.size := qB b0
 replace B := (B.ext Ew5).chg Cw5 (by omega)
 have s_w5 : w.heap.size ≤ w5.heap.size := Xw5.size
 clear Rw2 Cw5 Ew5
 clear zq2
 obtain ⟨m0, rfl, hm0⟩ : ∃ m0 : Nat, y0 = m0 ∧ m0 ≤ 8 := ⟨y0.toNat, by simp [litL] at hy0; omega, by simp [litL] at hy0; omega⟩
 clear hy0
 have hgb : w.heap.size < w3.heap.size := by omega
 generalize w3.heap.size = gb at *
 go_wp2_with fail
 go_loopw [4] (fun n wr => ∃ (m q : Nat) (cv ev : Value) (cells : List Int) (es : List Exp) (R : Nat → Value), m ≤ 8 ∧ n = .int .i64 m ∧ q + 10 * m ≤ k + 82 ∧ Hid (bufB cells es = true) ∧ BufA wr (w.heap.size + 1) gb cv ev cells es R ∧ wr.cell? ⟨gb, 0, none⟩ = some cv ∧ wr.cell? ⟨gb, 1, none⟩ = some ev ∧ wr.frozen? ⟨gb, 0, none⟩ = false ∧ wr.frozen? ⟨gb, 1, none⟩ = false ∧ wr.cell? ⟨w.heap.size, 0, none⟩ = some (.slice none 0 0) ∧ wr.cell? ⟨w.heap.size, 1, none⟩ = some (.slice none 0 0) ∧ wr.frozen? ⟨w.heap.size, 0, none⟩ = false ∧ wr.frozen? ⟨w.heap.size, 1, none⟩ = false ∧ Rd wr rb q ∧ Rch rb w wr) (fun n _ => (intOf n).toNat)
 case atStart => exact ⟨m0, _, _, _, cells0, es0, R, hm0, rfl, (by omega), hv0, B, b0, b1, f_b0, f_b1, q0, q1, f_q0, f_q1, Rw5, Xw5⟩
 case round =>
  clear Rw5 Xw5 B b0 b1 f_b0 f_b1 q0 q1 f_q0 f_q1 hv0 hm0 hn0
  obtain ⟨m, q, cv, ev, cells, es, R, hm, rfl, hq, hv, B, b0, b1, f_b0, f_b1, q0, q1, f_q0, f_q1, hr, X⟩ := hrel
  have s_wr := X.size
  have z_q : w.heap.size < wr.heap.size := qB q0
  have z_b : gb < wr.heap.size := qB b0
  have hlr := hr.lt
  obtain ⟨p0, c0, rfl⟩ := B.ints.form
  obtain ⟨p1, c1, rfl⟩ := B.exps.form
  have he1 := B.exps.len
  have hc1 := B.ints.len
  rcases m with _ | m
  ·
   have hkI : ¬ (0 : Int) < ((0 : Nat) : Int) := by omega
   go_wp2_with fail
   generalize hW3 : ((wr.setCell ⟨w.heap.size, 0, none⟩ (.slice p0 cells.length c0)).setCell ⟨w.heap.size, 1, none⟩ (.slice p1 es.length c1)) = w7 at *
   have Kw7 : Chg (w.heap.size) (w.heap.size + 1) wr w7 := by subst hW3; exact qCh
   have Xw7 : Rch rb w w7 := by subst hW3; exact qRt
   replace hr := (Rd.set2 (a := ⟨w.heap.size, 1, none⟩) (u := .slice p1 es.length c1) (show rb < w.heap.size by omega) (Rd.set2 (a := ⟨w.heap.size, 0, none⟩) (u := .slice p0 cells.length c0) (show rb < w.heap.size by omega) hr))
   rw [hW3] at hr
   replace q0 : w7.cell? ⟨w.heap.size, 0, none⟩ = some (.slice p0 cells.length c0) := by subst hW3; go_simp
   replace f_q0 : w7.frozen? ⟨w.heap.size, 0, none⟩ = false := by subst hW3; first | (simp only [World.frozen?_setCell]; with_reducible assumption) | go_simp
   replace q1 : w7.cell? ⟨w.heap.size, 1, none⟩ = some (.slice p1 es.length c1) := by subst hW3; go_simp
   replace f_q1 : w7.frozen? ⟨w.heap.size, 1, none⟩ = false := by subst hW3; first | (simp only [World.frozen?_setCell]; with_reducible assumption) | go_simp
   replace b0 := Kw7.cell (by omega) b0
   replace f_b0 := Kw7.frzO (by omega) z_b f_b0
   replace b1 := Kw7.cell (by omega) b1
   replace f_b1 := Kw7.frzO (by omega) z_b f_b1
   replace B := B.chg Kw7 (by omega)
   clear Kw7
   have z_q : w.heap.size < w7.heap.size := qB q0
   have z_b : gb < w7.heap.size := qB b0
   have s_w7 : w.heap.size ≤ w7.heap.size := Xw7.size
   clear hW3
   refine bodyPost_ret (v := .agg #[.slice p0 cells.length c0, .slice p1 es.length c1]) (by simp only [results, Try.results51]; go_simp) rfl ?_
   exact ⟨_, _, cells, es, R, rfl, hv.out, B.buf.lower (by omega), hr.mono (by omega), Xw7⟩
  ·
   have hkI : (0 : Int) < ((m + 1 : Nat) : Int) := by omega
   go_wp2_with fail
   refine wp_region_tail (S := fun w' => w'.cell? ⟨gb, 0, none⟩ = some (.slice p0 cells.length c0) ∧ w'.cell? ⟨gb, 1, none⟩ = some (.slice p1 es.length c1)) (fun i => decide (5 ≤ i)) qKr ⟨b0, b1⟩ (fun hHeld => ?_)
   refine qTt (v := ?_) 0 rfl (.inl ⟨by rfl, ?_⟩) ?_
   rotate_left
   ·
    (intro w hSw; (try dsimp only at hSw); go_simp; try with_reducible rfl)
   try simp only [Act.put, qa, qb, qc, qD, qE, qF]
   refine qTt (v := ?_) 1 rfl (.inl ⟨by rfl, ?_⟩) ?_
   rotate_left
   ·
    (intro w hSw; (try dsimp only at hSw); go_simp; try with_reducible rfl)
   try simp only [Act.put, qa, qb, qc, qD, qE, qF]
   refine qTt (v := ?_) 2 rfl (.inl ⟨by rfl, ?_⟩) ?_
   rotate_left
   ·
    (intro w hSw; (try dsimp only at hSw); go_simp; try with_reducible rfl)
   try simp only [Act.put, qa, qb, qc, qD, qE, qF]
   refine wpTail_one (i := 3) qKr rfl rfl (fun K hK => ?_)
   try simp only [Act.put, qa, qb, qc, qD, qE, qF]
   go_simp
   refine (someAct_c rb _ _ cells es _ _ R _ (B.buf.ext ((Ext.refl _).drew)) (by omega) hr.drew (by omega)).mono ?_
   rintro e w7 ⟨kd, ns, pn, rn, rfl, hkd, hl4, on, Rw7, Cw7⟩
   have Ew7 : Ext wr (wr.drew) := qXt
   have e_w7 := Ew7.size
   have zc_w7 := Cw7.size
   simp only [World.size_drew, World.size_alloc] at zc_w7
   have Xw7 : Rch rb w w7 := Rch.step (Rch.ext X Ew7) Cw7
   replace q0 := Cw7.cell (by omega) (Ew7.cell q0)
   replace f_q0 := Cw7.frzO (by omega) (by omega) (Ew7.frz z_q f_q0)
   replace q1 := Cw7.cell (by omega) (Ew7.cell q1)
   replace f_q1 := Cw7.frzO (by omega) (by omega) (Ew7.frz z_q f_q1)
   replace b0 := Cw7.cell (by omega) (Ew7.cell b0)
   replace f_b0 := Cw7.frzO (by omega) (by omega) (Ew7.frz z_b f_b0)
   replace b1 := Cw7.cell (by omega) (Ew7.cell b1)
   replace f_b1 := Cw7.frzO (by omega) (by omega) (Ew7.frz z_b f_b1)
   have z_q : w.heap.size < w7.heap.size := qB q0
   have z_b : gb < w7.heap.size := qB b0
   replace B := (B.ext Ew7).chg Cw7 (by omega)
   have s_w7 : w.heap.size ≤ w7.heap.size := Xw7.size
   clear hr Cw7 Ew7
   have in7 := on.ints (by omega)
   refine hK.out _ _ ⟨b0, b1⟩ (fun hHeld => ?_)
   clear hK K
   try simp only [Act.put, qa, qb, qc, qD, qE, qF]
   refine wpTail_one (i := 4) qKr rfl rfl (fun K hK => ?_)
   try simp only [Act.put, qa, qb, qc, qD, qE, qF]
   go_simp
   refine (apply_c kd cells es _ _ ns _ _ _ _ B.ints B.exps hv.out _ in7 hkd.out).mono ?_
   rintro e w8 ⟨cv2, ev2, C2, E2, s2, rfl, hv2, hb2, xw8⟩
   have Lw8 : Ext w7 w8 := Ext.trans qXt xw8
   have Xw8 : Rch rb w w8 := Rch.ext Xw7 Lw8
   replace Rw7 := Rw7.ext Lw8
   replace q0 := Lw8.cell q0
   replace q1 := Lw8.cell q1
   replace f_q0 := Lw8.frz z_q f_q0
   replace f_q1 := Lw8.frz z_q f_q1
   replace b0 := Lw8.cell b0
   replace b1 := Lw8.cell b1
   replace f_b0 := Lw8.frz z_b f_b0
   replace f_b1 := Lw8.frz z_b f_b1
   have z_q : w.heap.size < w8.heap.size := qB q0
   have z_b : gb < w8.heap.size := qB b0
   replace B := B.ext Lw8
   have s_w8 : w.heap.size ≤ w8.heap.size := Xw8.size
   clear xw8
   have B2 : ∃ R, BufA w8 (w.heap.size + 1) gb cv2 ev2 C2 E2 R := by
    rcases hb2 with ⟨R3, h3⟩ | ⟨rfl, rfl, rfl, rfl⟩
    ·
     exact ⟨R3, (BufA.of h3 (.inl (by omega))).lower (by omega)⟩
    ·
     exact ⟨R, B⟩
   obtain ⟨R3, B3⟩ := B2
   clear on in7 hb2 B
   obtain ⟨p3, c3, rfl⟩ := B3.ints.form
   obtain ⟨p4, c4, rfl⟩ := B3.exps.form
   refine hK.out _ _ ⟨b0, b1⟩ (fun hHeld => ?_)
   clear hK K
   try simp only [Act.put, qa, qb, qc, qD, qE, qF]
   refine qTp (v := ?_) 5 rfl (.inl ⟨by rfl, ?_⟩) ?_
   rotate_left
   ·
    (intro w hSw; (try dsimp only at hSw); go_simp; try with_reducible rfl)
   try simp only [Act.put, qa, qb, qc, qD, qE, qF]
   refine qTp (v := ?_) 6 rfl (.inl ⟨by rfl, ?_⟩) ?_
   rotate_left
   ·
    (intro w hSw; (try dsimp only at hSw); go_simp; try with_reducible rfl)
   try simp only [Act.put, qa, qb, qc, qD, qE, qF]
   refine qTp (v := ?_) 7 rfl (.inl ⟨by rfl, ?_⟩) ?_
   rotate_left
   ·
    (intro w hSw; (try dsimp only at hSw); go_simp; try with_reducible rfl)
   try simp only [Act.put, qa, qb, qc, qD, qE, qF]
   refine wpTail_last (i := 8) qKr rfl rfl (fun K hK => ?_)
   try simp only [Act.put, qa, qb, qc, qD, qE, qF]
   go_simp
   refine hK.out _ _ ?_
   clear hK K
   try simp only [Act.put, qa, qb, qc, qD, qE, qF]
   refine wpTail_done qKr ?_ _
   clear hHeld
   generalize hW4 : ((w8.setCell ⟨gb, 0, none⟩ (.slice p3 C2.length c3)).setCell ⟨gb, 1, none⟩ (.slice p4 E2.length c4)) = w9 at *
   have Kw9 : Chg (gb) (gb + 1) w8 w9 := by subst hW4; exact qCh
   have Xw9 : Rch rb w w9 := by subst hW4; exact qRt
   replace Rw7 := (Rd.set2 (a := ⟨gb, 1, none⟩) (u := .slice p4 E2.length c4) (show rb < gb by omega) (Rd.set2 (a := ⟨gb, 0, none⟩) (u := .slice p3 C2.length c3) (show rb < gb by omega) Rw7))
   rw [hW4] at Rw7
   replace q0 := Kw9.cell (by omega) q0
   replace f_q0 := Kw9.frzO (by omega) z_q f_q0
   replace q1 := Kw9.cell (by omega) q1
   replace f_q1 := Kw9.frzO (by omega) z_q f_q1
   replace b0 : w9.cell? ⟨gb, 0, none⟩ = some (.slice p3 C2.length c3) := by subst hW4; go_simp
   replace f_b0 : w9.frozen? ⟨gb, 0, none⟩ = false := by subst hW4; first | (simp only [World.frozen?_setCell]; with_reducible assumption) | go_simp
   replace b1 : w9.cell? ⟨gb, 1, none⟩ = some (.slice p4 E2.length c4) := by subst hW4; go_simp
   replace f_b1 : w9.frozen? ⟨gb, 1, none⟩ = false := by subst hW4; first | (simp only [World.frozen?_setCell]; with_reducible assumption) | go_simp
   replace B3 := B3.chg Kw9 (by omega)
   clear Kw9
   have z_q : w.heap.size < w9.heap.size := qB q0
   have z_b : gb < w9.heap.size := qB b0
   have s_w9 : w.heap.size ≤ w9.heap.size := Xw9.size
   clear hW4
   go_wp2_with fail
   go_roundw
   case rel => exact ⟨m, _, _, _, C2, E2, R3, by omega, by first | rfl | go_num, by omega, Lib.hid hv2, B3, b0, b1, f_b0, f_b1, q0, q1, f_q0, f_q1, Rw7, Xw9⟩
   case measure => simp [intOf]

end Go.Proofs.Ytgklaobfikbiiaa

/- Walks: a buffer is drawn that may be invalid. -/
namespace Go.Proofs.Ytgklaobfikbiiaa
open Go.RowKit
set_option linter.unusedVariables false
set_option maxRecDepth 100000

/-- a buffer comes back that may be invalid -/
def SmallX (cells : List Int) (es : List Exp) : Prop := cells.length ≤ 61 ∧ es.length ≤ 9 ∧ ∀ i, i < es.length → (expAt es i).s.length ≤ 4 ∧ (expAt es i).t.length ≤ 4
def PSomeB (rb k : Nat) (w : World) (e : Ending) (w' : World) : Prop := ∃ cv ev cells es R, e = .returned (.agg #[cv, ev]) ∧ BufR w' w.heap.size cv ev cells es R ∧ Hid (SmallX cells es) ∧ Rd w' rb k ∧ Chg rb (rb + 1) w w'
theorem smallX_of {cells : List Int} {es : List Exp} (h : bufB cells es = true) : SmallX cells es := ⟨by have := (bufB_in h).2.1; omega, by have := (bufB_in h).2.2.1; omega, fun i hi => bufB_rows h i hi⟩
theorem smallX_cells {cells : List Int} {es : List Exp} (h : bufB cells es = true) (x : Int) : SmallX (cells ++ [x]) es := ⟨by have := (bufB_in h).2.1; rw [List.length_append, List.length_singleton]; omega, by have := (bufB_in h).2.2.1; omega, fun i hi => bufB_rows h i hi⟩
theorem smallX_exp {cells : List Int} {es : List Exp} (h : bufB cells es = true) (p b : Int) (o : Bool) : SmallX cells (es ++ [⟨p, b, [], [], o⟩]) := by
 have h1 := smallB_app h ⟨p, b, [], [], o⟩ (by simp) (by simp)
 exact ⟨by have := (bufB_in h).2.1; omega, h1.el, h1.rows⟩
section
variable {w w' W : World} {lo g m : Nat} {cv ev cv2 v' u1 u2 : Value} {cells c2 : List Int} {es : List Exp} {R : Nat → Value} {e : Exp}
theorem BufA.grown (hS : BufR w' lo cv v' cells (es ++ [e]) (extR R es.length u1 u2)) (q : BufAt (fun x => lo ≤ x ∧ x < g) cv ev cells es R) (hv : v'.ownBlock = ev.ownBlock ∨ v'.ownBlock = some m) (hm : g < m) (hs : e.s = []) (ht : e.t = []) : BufA w' lo g cv v' cells (es ++ [e]) (extR R es.length u1 u2) := by
 refine ⟨hS, fun hc x hx => ?_, fun x hx => ?_, fun p hp hr x hx => ?_⟩
 ·
  have := q.c hc x hx; omega
 ·
  rcases hv with hv | hv
  ·
   rw [hv] at hx; have := q.e x hx; omega
  ·
   rw [hv] at hx; have := Option.some.inj hx; omega
 ·
  rw [List.length_append, List.length_singleton] at hp
  have hpl : p < 2 * es.length ∨ p = 2 * es.length ∨ p = 2 * es.length + 1 := by omega
  rcases hpl with hp | rfl | rfl
  ·
   rw [extR_old hp] at hx; rw [rowAt_app hp] at hr; have := q.r p hp hr x hx; omega
  ·
   rw [rowAt_even, expAt_app2] at hr; exact absurd hs hr
  ·
   rw [rowAt_odd, expAt_app2] at hr; exact absurd ht hr
/-- other cells: the old row grown, or one of their own -/
theorem BufR.cellsG (h : BufR W lo cv ev cells es R) (hE : ExpR w' lo ev es R) (o : OwnI w' lo cv2 c2) (hc : c2.length ≤ 4194304) (hn : c2 ≠ []) (hv : (cells ≠ [] ∧ cv2.ownBlock = cv.ownBlock) ∨ cv2.ownBlock = some W.heap.size) : BufR w' lo cv2 ev c2 es R := by
 refine ⟨o.z, hE, hc, h.el, fun _ h2 => ?_, fun p hp hs _ h2 => ?_, Lib.hid (fun h => absurd h hn)⟩
 ·
  rcases hv with ⟨hne, hv⟩ | hv
  ·
   rw [hv] at h2; exact h.offc hne h2
  ·
   have := (h.ex.blk W.heap.size (by rw [← h2]; exact hv)).2; omega
 ·
  rcases hv with ⟨hne, hv⟩ | hv
  ·
   rw [hv] at h2; exact h.offr p hp hs hne h2
  ·
   obtain ⟨g, hg1, -, hb⟩ := h.ex.nblk p hp hs
   rw [h2, hv] at hg1
   have := Option.some.inj hg1; omega
theorem BufA.cellsG (h : BufR w' lo cv2 ev c2 es R) (q : BufAt (fun x => lo ≤ x ∧ x < g) cv ev cells es R) (hv : (cells ≠ [] ∧ cv2.ownBlock = cv.ownBlock) ∨ cv2.ownBlock = some m) (hm : g < m) : BufA w' lo g cv2 ev c2 es R := by
 refine ⟨h, fun hc x hx => ?_, fun x hx => ?_, fun p hp hr x hx => ?_⟩
 ·
  rcases hv with ⟨hne, hv⟩ | hv
  ·
   rw [hv] at hx; have := q.c hne x hx; omega
  ·
   rw [hv] at hx; have := Option.some.inj hx; omega
 ·
  have := q.e x hx; omega
 ·
  have := q.r p hp hr x hx; omega
/-- a number behind the cells of a buffer -/
theorem wpList_app256 {ops : Array Oper} {rest : List Oper} {o : Oper} {a : Act} {Q : Exit → Act → World → Prop} {src : Value} {x : Int} {lo3 hi : Nat} (h : BufR w lo cv ev cells es R) (hx : Ext w W) (hW : (W.heap.size = w.heap.size + 1)) (q : BufAt (fun y => lo ≤ y ∧ y < hi) cv ev cells es R) (hgd : o.guard = none) (s y : Operand)
  (ho : o.op = .call { callee := .builtin .append, args := #[s, y], argTypes := #[23, 23] })
  (hs : a.eval s = cv) (hy : a.eval y = src) (hsrc : Ints W lo3 src [x]) (hlo : lo ≤ w.heap.size) (hhi : hi ≤ w.heap.size) (hl : cells.length ≤ 60)
  (hK : ∀ v' w', BufR w' lo v' ev (cells ++ [x]) es R → Chg lo hi W w' → ((cells ≠ [] ∧ v'.ownBlock = cv.ownBlock) ∨ v'.ownBlock = some W.heap.size) → wpList Try.prog ops Q rest (a.put o.dst v') w') : wpList Try.prog ops Q (o :: rest) a W := by
 by_cases hc : cells = []
 ·
  subst hc
  obtain ⟨a0, rfl⟩ := h.cz.out rfl
  cases a0 with
  | none =>
   refine wpList_app hgd s y ho hs hy (OwnI.nil W W.heap.size) hsrc (by simp) (Nat.le_refl _) (fun v' w' h1 h2 h3 h4 => ?_)
   have hE : Ext W w' := (Ext.refl W).grown h2 (by simp [Value.ownBlock])
   have hb : v'.ownBlock = some W.heap.size := by
    rcases h4 with h4 | h4
    ·
     obtain ⟨g, hg, _⟩ := h1.z.lt (by simp)
     rw [hg] at h4; cases h4
    ·
     exact h4
   exact hK v' w' ((h.ext hx).cellsG ((h.ex.ext hx).ext hE) (h1.lower (by omega)) (by simp) (by simp) (.inr hb)) (Chg.of_ext hE) (.inr hb)
  | some ad =>
   refine wpList_app0 hgd s y ad ho hs hy hsrc (fun v' w' h1 hE h3 => ?_)
   have hb := h3 (by simp)
   exact hK v' w' ((h.ext hx).cellsG ((h.ex.ext hx).ext hE) ((h1.ofNe (by simp)).lower (by omega)) (by simp) (by simp) (.inr hb)) (Chg.of_ext hE) (.inr hb)
 ·
  have hI := (h.cel.ofNe hc).ext hx
  refine wpList_app hgd s y ho hs hy hI hsrc (by simp; omega) (by omega) (fun v' w' h1 h2 h3 h4 => ?_)
  have hv : (cells ≠ [] ∧ v'.ownBlock = cv.ownBlock) ∨ v'.ownBlock = some W.heap.size := by
   rcases h4 with h4 | h4
   ·
    exact .inl ⟨hc, h4⟩
   ·
    exact .inr h4
  refine hK v' w' ((h.ext hx).cellsG ((h.ex.ext hx).keptG h2 (.inr (fun h9 => h.offc hc h9.symm)) (fun p hp hn => h.offr p hp hn hc)) h1 (by simp; omega) (by simp) hv) ?_ hv
  exact ⟨h2.os, h2.tape, h2.output, h2.size, fun k hk hd => h2.block k hk (fun h9 => by have := q.c hc k h9.symm; omega)⟩
end

set_option maxHeartbeats 6400000 in
theorem someBuffer_c (rb k : Nat) (w : World) (hr : Rd w rb k) (hk : k ≤ 300000) :
  Calls Try.prog 33 #[.pointer (some ⟨rb, 0, none⟩)] w (PSomeB rb (k + 110) w) := by
 have hlt := hr.lt
 go_enter Try.func33, Try.ntmps33
 go_wp2_with fail
 generalize hW1 : w.alloc (.cells #[.slice none 0 0, .slice none 0 0] 26) = w1 at *
 have zq1 : w.heap.size + 1 = w1.heap.size := by subst hW1; simp
 have Lw1 : Ext w w1 := by subst hW1; exact qXt
 have Xw1 : Rch rb w w1 := Rch.ext (Rch.refl rb w) Lw1
 replace hr := hr.ext Lw1
 have q0 : w1.cell? ⟨w.heap.size, 0, none⟩ = some (.slice none 0 0) := by subst hW1; exact qCl
 have q1 : w1.cell? ⟨w.heap.size, 1, none⟩ = some (.slice none 0 0) := by subst hW1; exact qCl
 have f_q0 : w1.frozen? ⟨w.heap.size, 0, none⟩ = false := by subst hW1; exact qFz
 have f_q1 : w1.frozen? ⟨w.heap.size, 1, none⟩ = false := by subst hW1; exact qFz
 have z_q : w.heap.size < w1.heap.size := qB q0
 have s_w1 : w.heap.size ≤ w1.heap.size := Xw1.size
 clear hW1
 refine (goodBuffer_c rb _ _ hr (by omega)).mono ?_
 rintro e w2 ⟨cv, ev, cells, es, R, rfl, hv, B, Rw2, Cw2⟩
 have zc_w2 := Cw2.size
 have Xw2 : Rch rb w w2 := Rch.step (Xw1) Cw2
 replace q0 := Cw2.cell (by omega) q0
 replace f_q0 := Cw2.frzO (by omega) (by omega) f_q0
 replace q1 := Cw2.cell (by omega) q1
 replace f_q1 := Cw2.frzO (by omega) (by omega) f_q1
 have z_q : w.heap.size < w2.heap.size := qB q0
 have s_w2 : w.heap.size ≤ w2.heap.size := Xw2.size
 clear hr Cw2
 have zq2 : w.heap.size + 1 ≤ w1.heap.size := by omega
 clear zq1
 replace hv := Lib.hid hv
 replace B := B.lower (lo' := w.heap.size + 1) (by omega)
 obtain ⟨p0, c0, rfl⟩ := B.ints.form
 obtain ⟨p1, c1, rfl⟩ := B.exps.form
 have he8 := (bufB_in hv.out).2.2.1
 have hc60 := (bufB_in hv.out).2.1
 have q0A := Lib.hid B.at
 go_wp2_with fail
 generalize hW2 : w2.alloc (.cells #[.slice p0 cells.length c0, .slice p1 es.length c1] 26) = w3 at *
 have Lw3 : Ext w2 w3 := by subst hW2; exact qXt
 have Xw3 : Rch rb w w3 := Rch.ext Xw2 Lw3
 replace Rw2 := Rw2.ext Lw3
 replace q0 := Lw3.cell q0
 replace q1 := Lw3.cell q1
 replace f_q0 := Lw3.frz z_q f_q0
 replace f_q1 := Lw3.frz z_q f_q1
 have b0 : w3.cell? ⟨w2.heap.size, 0, none⟩ = some (.slice p0 cells.length c0) := by subst hW2; exact qCl
 have b1 : w3.cell? ⟨w2.heap.size, 1, none⟩ = some (.slice p1 es.length c1) := by subst hW2; exact qCl
 have f_b0 : w3.frozen? ⟨w2.heap.size, 0, none⟩ = false := by subst hW2; exact qFz
 have f_b1 : w3.frozen? ⟨w2.heap.size, 1, none⟩ = false := by subst hW2; exact qFz
 have z_q : w.heap.size < w3.heap.size := qB q0
 have z_b : w2.heap.size < w3.heap.size := qB b0
 replace B := B.ext Lw3
 have s_w3 : w.heap.size ≤ w3.heap.size := Xw3.size
 clear hW2
 refine (pick1_c 20 _ _ _ Rw2 (by omega) (by omega)).mono ?_
 rintro e w4 ⟨x, rfl, hx, Rw4, Cw4⟩
 have zc_w4 := Cw4.size
 have Xw4 : Rch rb w w4 := Rch.step (Xw3) Cw4
 replace q0 := Cw4.cell (by omega) q0
 replace f_q0 := Cw4.frzO (by omega) (by omega) f_q0
 replace q1 := Cw4.cell (by omega) q1
 replace f_q1 := Cw4.frzO (by omega) (by omega) f_q1
 replace b0 := Cw4.cell (by omega) b0
 replace f_b0 := Cw4.frzO (by omega) (by omega) f_b0
 replace b1 := Cw4.cell (by omega) b1
 replace f_b1 := Cw4.frzO (by omega) (by omega) f_b1
 have z_q : w.heap.size < w4.heap.size := qB q0
 have z_b : w2.heap.size < w4.heap.size := qB b0
 replace B := B.chg Cw4 (by omega)
 have s_w4 : w.heap.size ≤ w4.heap.size := Xw4.size
 clear Rw2 Cw4
 have hgb : w.heap.size + 1 ≤ w2.heap.size := by omega
 generalize w2.heap.size = gb at *
 have z_q : w.heap.size < w4.heap.size := qB q0
 have z_b : gb < w4.heap.size := qB b0
 have hBA : BufA w4 (w.heap.size + 1) gb (.slice p0 cells.length c0) (.slice p1 es.length c1) cells es R := ⟨B, ⟨fun hc y hy => (by have := q0A.out.c hc y hy; omega), fun y hy => (by have := q0A.out.e y hy; omega), fun p hp hn y hy => (by have := q0A.out.r p hp hn y hy; omega)⟩⟩
 rcases (show x = 0 ∨ x = 1 ∨ x = 2 ∨ 3 ≤ x by omega) with rfl | rfl | rfl | hx3
 ·
  skip
  clear hx
  have EE : Ext w4 (w4.alloc (.cells #[.int .i64 256] 3)) := qXt
  go_wp2_with (at_builtin; refine wpList_app256 (hi := gb) hBA.buf EE (by simp) q0A.out rfl (.tmp 11) (.tmp 12) rfl rfl rfl (Ints.one _ 0 _ (Nat.zero_le _)) (by omega) (by omega) (by omega) ?_)
  intro v6 w5 hS Kw5 hb6
  have Kw5b : Chg (w.heap.size + 1) gb w4 w5 := (Chg.of_ext EE).trans Kw5
  have B6 := BufA.cellsG (g := gb) hS ⟨q0A.out.c, q0A.out.e, q0A.out.r⟩ hb6 (by (try simp); omega)
  obtain ⟨p6, c6, hf6⟩ := hS.ints.form
  rw [List.length_append, List.length_singleton] at hf6
  subst hf6
  clear hS hBA B EE Kw5
  have Xw5 : Rch rb w w5 := Rch.below' Xw4 Kw5b (by omega)
  replace q0 := Kw5b.cell (by omega) q0
  replace f_q0 := Kw5b.frzO (by omega) z_q f_q0
  replace q1 := Kw5b.cell (by omega) q1
  replace f_q1 := Kw5b.frzO (by omega) z_q f_q1
  replace b0 := Kw5b.cell (by omega) b0
  replace f_b0 := Kw5b.frzO (by omega) z_b f_b0
  replace b1 := Kw5b.cell (by omega) b1
  replace f_b1 := Kw5b.frzO (by omega) z_b f_b1
  have z_q : w.heap.size < w5.heap.size := qB q0
  have z_b : gb < w5.heap.size := qB b0
  replace Rw4 := Rw4.chgO Kw5b (by omega)
  have s_w5 : w.heap.size ≤ w5.heap.size := Xw5.size
  clear Kw5b hb6
  go_wp2_with fail
  generalize hW3 : (w5.setCell ⟨gb, 0, none⟩ (.slice p6 (cells.length + 1) c6)) = w6 at *
  have Kw6 : Chg (gb) (gb + 1) w5 w6 := by subst hW3; exact qCh
  have Xw6 : Rch rb w w6 := by subst hW3; exact qRt
  replace Rw4 := (Rd.set2 (a := ⟨gb, 0, none⟩) (u := .slice p6 (cells.length + 1) c6) (show rb < gb by omega) Rw4)
  rw [hW3] at Rw4
  replace q0 := Kw6.cell (by omega) q0
  replace f_q0 := Kw6.frzO (by omega) z_q f_q0
  replace q1 := Kw6.cell (by omega) q1
  replace f_q1 := Kw6.frzO (by omega) z_q f_q1
  replace b0 : w6.cell? ⟨gb, 0, none⟩ = some (.slice p6 (cells.length + 1) c6) := by subst hW3; go_simp
  replace f_b0 : w6.frozen? ⟨gb, 0, none⟩ = false := by subst hW3; first | (simp only [World.frozen?_setCell]; with_reducible assumption) | go_simp
  replace b1 : w6.cell? ⟨gb, 1, none⟩ = some (.slice p1 es.length c1) := by subst hW3; go_simp
  replace f_b1 : w6.frozen? ⟨gb, 1, none⟩ = false := by subst hW3; first | (simp only [World.frozen?_setCell]; with_reducible assumption) | go_simp
  replace B6 := B6.chg Kw6 (by omega)
  clear Kw6
  have z_q : w.heap.size < w6.heap.size := qB q0
  have z_b : gb < w6.heap.size := qB b0
  have s_w6 : w.heap.size ≤ w6.heap.size := Xw6.size
  clear hW3
  go_wp2_with fail
  generalize hW4 : ((w6.setCell ⟨w.heap.size, 0, none⟩ (.slice p6 (cells.length + 1) c6)).setCell ⟨w.heap.size, 1, none⟩ (.slice p1 es.length c1)) = w7 at *
  have Kw7 : Chg (w.heap.size) (w.heap.size + 1) w6 w7 := by subst hW4; exact qCh
  have Xw7 : Rch rb w w7 := by subst hW4; exact qRt
  replace Rw4 := (Rd.set2 (a := ⟨w.heap.size, 1, none⟩) (u := .slice p1 es.length c1) (show rb < w.heap.size by omega) (Rd.set2 (a := ⟨w.heap.size, 0, none⟩) (u := .slice p6 (cells.length + 1) c6) (show rb < w.heap.size by omega) Rw4))
  rw [hW4] at Rw4
  replace q0 : w7.cell? ⟨w.heap.size, 0, none⟩ = some (.slice p6 (cells.length + 1) c6) := by subst hW4; go_simp
  replace f_q0 : w7.frozen? ⟨w.heap.size, 0, none⟩ = false := by subst hW4; first | (simp only [World.frozen?_setCell]; with_reducible assumption) | go_simp
  replace q1 : w7.cell? ⟨w.heap.size, 1, none⟩ = some (.slice p1 es.length c1) := by subst hW4; go_simp
  replace f_q1 : w7.frozen? ⟨w.heap.size, 1, none⟩ = false := by subst hW4; first | (simp only [World.frozen?_setCell]; with_reducible assumption) | go_simp
  replace b0 := Kw7.cell (by omega) b0
  replace f_b0 := Kw7.frzO (by omega) z_b f_b0
  replace b1 := Kw7.cell (by omega) b1
  replace f_b1 := Kw7.frzO (by omega) z_b f_b1
  replace B6 := B6.chg Kw7 (by omega)
  clear Kw7
  have z_q : w.heap.size < w7.heap.size := qB q0
  have z_b : gb < w7.heap.size := qB b0
  have s_w7 : w.heap.size ≤ w7.heap.size := Xw7.size
  clear hW4
  refine bodyPost_ret (v := .agg #[.slice p6 (cells.length + 1) c6, .slice p1 es.length c1]) (by simp only [results, Try.results33]; go_simp) rfl ?_
  exact ⟨_, _, _, _, _, rfl, B6.buf.lower (by omega), Lib.hid (smallX_cells hv.out 256), Rw4.mono (by omega), Xw7⟩
 ·
  skip
  clear hx
  go_wp2_with fail
  refine wp_region_tail (S := fun w' => w'.cell? ⟨gb, 1, none⟩ = some (.slice p1 es.length c1)) (fun i => decide (9 ≤ i)) qKr b1 (fun hHeld => ?_)
  refine qTt (v := ?_) 0 rfl (.inl ⟨by rfl, ?_⟩) ?_
  rotate_left
  ·
   (intro w hSw; (try dsimp only at hSw); go_simp; try with_reducible rfl)
  try simp only [Act.put, qa, qb, qc, qD, qE, qF]
  refine qTt (v := ?_) 1 rfl (.inl ⟨by rfl, ?_⟩) ?_
  rotate_left
  ·
   (intro w hSw; (try dsimp only at hSw); go_simp; try with_reducible rfl)
  try simp only [Act.put, qa, qb, qc, qD, qE, qF]
  refine qTt (v := ?_) 2 rfl (.inl ⟨by rfl, ?_⟩) ?_
  rotate_left
  ·
   (intro w hSw; (try dsimp only at hSw); go_simp; try with_reducible rfl)
  try simp only [Act.put, qa, qb, qc, qD, qE, qF]
  refine wpTail_one (i := 3) qKr rfl rfl (fun K hK => ?_)
  try simp only [Act.put, qa, qb, qc, qD, qE, qF]
  go_simp
  have E0 : Ext w4 (w4.drew.alloc (.cells #[.int .i64 (-2), .int .i64 8] 3)) := qXt
  refine hK.out _ _ (E0.cell b1) (fun hHeld => ?_)
  clear hK K E0
  try simp only [Act.put, qa, qb, qc, qD, qE, qF]
  refine wpTail_one (i := 4) qKr rfl rfl (fun K hK => ?_)
  try simp only [Act.put, qa, qb, qc, qD, qE, qF]
  go_simp
  refine (oneLit_c #[.int .i64 (-2), .int .i64 8] 2 _ _ _ _ Rw4.drew (by omega) (by rfl) (by rfl) (by constructor <;> simp) (by first | rfl | simp)).mono ?_
  rintro e w5 ⟨y, rfl, -, Rw5, Cw5⟩
  have Ew5 : Ext w4 (w4.drew.alloc (.cells #[.int .i64 (-2), .int .i64 8] 3)) := qXt
  have e_w5 := Ew5.size
  have zc_w5 := Cw5.size
  simp only [World.size_drew, World.size_alloc] at zc_w5
  have Xw5 : Rch rb w w5 := Rch.step (Rch.ext Xw4 Ew5) Cw5
  replace q0 := Cw5.cell (by omega) (Ew5.cell q0)
  replace f_q0 := Cw5.frzO (by omega) (by omega) (Ew5.frz z_q f_q0)
  replace q1 := Cw5.cell (by omega) (Ew5.cell q1)
  replace f_q1 := Cw5.frzO (by omega) (by omega) (Ew5.frz z_q f_q1)
  replace b0 := Cw5.cell (by omega) (Ew5.cell b0)
  replace f_b0 := Cw5.frzO (by omega) (by omega) (Ew5.frz z_b f_b0)
  replace b1 := Cw5.cell (by omega) (Ew5.cell b1)
  replace f_b1 := Cw5.frzO (by omega) (by omega) (Ew5.frz z_b f_b1)
  have z_q : w.heap.size < w5.heap.size := qB q0
  have z_b : gb < w5.heap.size := qB b0
  replace B := (B.ext Ew5).chg Cw5 (by omega)
  have s_w5 : w.heap.size ≤ w5.heap.size := Xw5.size
  clear Rw4 Cw5 Ew5
  refine hK.out _ _ b1 (fun hHeld => ?_)
  clear hK K
  try simp only [Act.put, qa, qb, qc, qD, qE, qF]
  refine qTt (v := ?_) 5 rfl (.inl ⟨by rfl, ?_⟩) ?_
  rotate_left
  ·
   (intro w hSw; (try dsimp only at hSw); go_simp; try with_reducible rfl)
  try simp only [Act.put, qa, qb, qc, qD, qE, qF]
  refine wpTail_one (i := 6) qKr rfl rfl (fun K hK => ?_)
  try simp only [Act.put, qa, qb, qc, qD, qE, qF]
  go_simp
  have EE : Ext w5 (w5.alloc (.cells #[.int .i64 y, .int .i64 0, .slice none 0 0, .slice none 0 0, .bool true] TEXPORT)) := qXt
  have SS : SrcR (w5.alloc (.cells #[.int .i64 y, .int .i64 0, .slice none 0 0, .slice none 0 0, .bool true] TEXPORT)) 5 (.slice (some ⟨w5.heap.size, 0, none⟩) 1 1) 1 [.int .i64 y, .int .i64 0, .slice none 0 0, .slice none 0 0, .bool true] := src_one w5 _ rfl (by intro u hu; simp only [List.mem_cons, List.not_mem_nil, or_false] at hu; rcases hu with rfl | rfl | rfl | rfl | rfl <;> rfl)
  refine hK.out _ _ (EE.cell b1) (fun hHeld => ?_)
  clear hK K
  try simp only [Act.put, qa, qb, qc, qD, qE, qF]
  refine wpTail_one (i := 7) qKr rfl rfl (fun K hK => ?_)
  refine step_appC Try.underlying24 infoExp rfl (by decide) rfl (.tmp 18) (.tmp 23) rfl rfl rfl (B.ex.row.ext EE) SS (by rw [cellsE_len]; omega) (by rw [cellsE_len]; omega) (by (try simp); omega) ?_
  intro v6 w6 ho hgr hbl hv6
  have hS : BufR w6 (w.heap.size + 1) (.slice p0 cells.length c0) v6 cells (es ++ [⟨y, 0, [], [], true⟩]) (extR R es.length (.slice none 0 0) (.slice none 0 0)) := BufR.app (B.ext EE) (Nat.le_refl _) (OwnI.nil _ _).z (OwnI.nil _ _).z (by simp) (by simp) (fun h => absurd rfl h) (fun h => absurd rfl h) (fun h => absurd rfl h) (by omega) (by exact ho) hgr (by first | exact hv6 | (rw [World.size_alloc]; exact hv6))
  have Kw6 : Chg (w.heap.size + 1) gb w5 w6 := chg_row hgr (fun g hg => q0A.out.e g hg)
  have B6 := BufA.grown (g := gb) hS ⟨q0A.out.c, q0A.out.e, q0A.out.r⟩ hv6 (by (try simp); omega) rfl rfl
  obtain ⟨p6, c6, hf6⟩ := hS.ex.len
  rw [List.length_append, List.length_singleton] at hf6
  subst hf6
  clear hS hBA B EE SS ho hgr hbl hv6
  have Xw6 : Rch rb w w6 := Rch.below' Xw5 Kw6 (by omega)
  replace q0 := Kw6.cell (by omega) q0
  replace f_q0 := Kw6.frzO (by omega) z_q f_q0
  replace q1 := Kw6.cell (by omega) q1
  replace f_q1 := Kw6.frzO (by omega) z_q f_q1
  replace b0 := Kw6.cell (by omega) b0
  replace f_b0 := Kw6.frzO (by omega) z_b f_b0
  replace b1 := Kw6.cell (by omega) b1
  replace f_b1 := Kw6.frzO (by omega) z_b f_b1
  have z_q : w.heap.size < w6.heap.size := qB q0
  have z_b : gb < w6.heap.size := qB b0
  replace Rw5 := Rw5.chgO Kw6 (by omega)
  have s_w6 : w.heap.size ≤ w6.heap.size := Xw6.size
  clear Kw6
  refine hK.out _ _ b1 (fun hHeld => ?_)
  clear hK K
  try simp only [Act.put, qa, qb, qc, qD, qE, qF]
  refine qTt (v := ?_) 8 rfl (.inl ⟨by rfl, ?_⟩) ?_
  rotate_left
  ·
   (intro w hSw; (try dsimp only at hSw); go_simp; try with_reducible rfl)
  try simp only [Act.put, qa, qb, qc, qD, qE, qF]
  refine wpTail_last (i := 9) qKr rfl rfl (fun K hK => ?_)
  try simp only [Act.put, qa, qb, qc, qD, qE, qF]
  go_simp
  refine hK.out _ _ ?_
  clear hK K
  try simp only [Act.put, qa, qb, qc, qD, qE, qF]
  refine wpTail_done qKr ?_ _
  clear hHeld
  generalize hW5 : (w6.setCell ⟨gb, 1, none⟩ (.slice p6 (es.length + 1) c6)) = w7 at *
  have Kw7 : Chg (gb) (gb + 1) w6 w7 := by subst hW5; exact qCh
  have Xw7 : Rch rb w w7 := by subst hW5; exact qRt
  replace Rw5 := (Rd.set2 (a := ⟨gb, 1, none⟩) (u := .slice p6 (es.length + 1) c6) (show rb < gb by omega) Rw5)
  rw [hW5] at Rw5
  replace q0 := Kw7.cell (by omega) q0
  replace f_q0 := Kw7.frzO (by omega) z_q f_q0
  replace q1 := Kw7.cell (by omega) q1
  replace f_q1 := Kw7.frzO (by omega) z_q f_q1
  replace b0 : w7.cell? ⟨gb, 0, none⟩ = some (.slice p0 cells.length c0) := by subst hW5; go_simp
  replace f_b0 : w7.frozen? ⟨gb, 0, none⟩ = false := by subst hW5; first | (simp only [World.frozen?_setCell]; with_reducible assumption) | go_simp
  replace b1 : w7.cell? ⟨gb, 1, none⟩ = some (.slice p6 (es.length + 1) c6) := by subst hW5; go_simp
  replace f_b1 : w7.frozen? ⟨gb, 1, none⟩ = false := by subst hW5; first | (simp only [World.frozen?_setCell]; with_reducible assumption) | go_simp
  replace B6 := B6.chg Kw7 (by omega)
  clear Kw7
  have z_q : w.heap.size < w7.heap.size := qB q0
  have z_b : gb < w7.heap.size := qB b0
  have s_w7 : w.heap.size ≤ w7.heap.size := Xw7.size
  clear hW5
  go_wp2_with fail
  generalize hW6 : ((w7.setCell ⟨w.heap.size, 0, none⟩ (.slice p0 cells.length c0)).setCell ⟨w.heap.size, 1, none⟩ (.slice p6 (es.length + 1) c6)) = w8 at *
  have Kw8 : Chg (w.heap.size) (w.heap.size + 1) w7 w8 := by subst hW6; exact qCh
  have Xw8 : Rch rb w w8 := by subst hW6; exact qRt
  replace Rw5 := (Rd.set2 (a := ⟨w.heap.size, 1, none⟩) (u := .slice p6 (es.length + 1) c6) (show rb < w.heap.size by omega) (Rd.set2 (a := ⟨w.heap.size, 0, none⟩) (u := .slice p0 cells.length c0) (show rb < w.heap.size by omega) Rw5))
  rw [hW6] at Rw5
  replace q0 : w8.cell? ⟨w.heap.size, 0, none⟩ = some (.slice p0 cells.length c0) := by subst hW6; go_simp
  replace f_q0 : w8.frozen? ⟨w.heap.size, 0, none⟩ = false := by subst hW6; first | (simp only [World.frozen?_setCell]; with_reducible assumption) | go_simp
  replace q1 : w8.cell? ⟨w.heap.size, 1, none⟩ = some (.slice p6 (es.length + 1) c6) := by subst hW6; go_simp
  replace f_q1 : w8.frozen? ⟨w.heap.size, 1, none⟩ = false := by subst hW6; first | (simp only [World.frozen?_setCell]; with_reducible assumption) | go_simp
  replace b0 := Kw8.cell (by omega) b0
  replace f_b0 := Kw8.frzO (by omega) z_b f_b0
  replace b1 := Kw8.cell (by omega) b1
  replace f_b1 := Kw8.frzO (by omega) z_b f_b1
  replace B6 := B6.chg Kw8 (by omega)
  clear Kw8
  have z_q : w.heap.size < w8.heap.size := qB q0
  have z_b : gb < w8.heap.size := qB b0
  have s_w8 : w.heap.size ≤ w8.heap.size := Xw8.size
  clear hW6
  refine bodyPost_ret (v := .agg #[.slice p0 cells.length c0, .slice p6 (es.length + 1) c6]) (by simp only [results, Try.results33]; go_simp) rfl ?_
  exact ⟨_, _, _, _, _, rfl, B6.buf.lower (by omega), Lib.hid (smallX_exp hv.out y 0 true), Rw5.mono (by omega), Xw8⟩
 ·
  skip
  clear hx
  have EE : Ext w4 (w4.alloc (.cells #[.int .i64 (-1), .int .i64 59, .slice none 0 0, .slice none 0 0, .bool true] TEXPORT)) := qXt
  have SS : SrcR (w4.alloc (.cells #[.int .i64 (-1), .int .i64 59, .slice none 0 0, .slice none 0 0, .bool true] TEXPORT)) 5 (.slice (some ⟨w4.heap.size, 0, none⟩) 1 1) 1 [.int .i64 (-1), .int .i64 59, .slice none 0 0, .slice none 0 0, .bool true] := src_one w4 _ rfl (by intro u hu; simp only [List.mem_cons, List.not_mem_nil, or_false] at hu; rcases hu with rfl | rfl | rfl | rfl | rfl <;> rfl)
  go_wp2_with (at_builtin; refine wpList_appC Try.underlying24 infoExp rfl (by decide) rfl (.tmp 29) (.tmp 32) rfl rfl rfl (B.ex.row.ext EE) SS (by rw [cellsE_len]; omega) (by rw [cellsE_len]; omega) (by (try simp); omega) ?_)
  intro v6 w5 ho hgr hbl hv6
  have hS : BufR w5 (w.heap.size + 1) (.slice p0 cells.length c0) v6 cells (es ++ [⟨-1, 59, [], [], true⟩]) (extR R es.length (.slice none 0 0) (.slice none 0 0)) := BufR.app (B.ext EE) (Nat.le_refl _) (OwnI.nil _ _).z (OwnI.nil _ _).z (by simp) (by simp) (fun h => absurd rfl h) (fun h => absurd rfl h) (fun h => absurd rfl h) (by omega) (by exact ho) hgr (by first | exact hv6 | (rw [World.size_alloc]; exact hv6))
  have Kw5 : Chg (w.heap.size + 1) gb w4 w5 := chg_row hgr (fun g hg => q0A.out.e g hg)
  have B6 := BufA.grown (g := gb) hS ⟨q0A.out.c, q0A.out.e, q0A.out.r⟩ hv6 (by (try simp); omega) rfl rfl
  obtain ⟨p6, c6, hf6⟩ := hS.ex.len
  rw [List.length_append, List.length_singleton] at hf6
  subst hf6
  clear hS hBA B EE SS ho hgr hbl hv6
  have Xw5 : Rch rb w w5 := Rch.below' Xw4 Kw5 (by omega)
  replace q0 := Kw5.cell (by omega) q0
  replace f_q0 := Kw5.frzO (by omega) z_q f_q0
  replace q1 := Kw5.cell (by omega) q1
  replace f_q1 := Kw5.frzO (by omega) z_q f_q1
  replace b0 := Kw5.cell (by omega) b0
  replace f_b0 := Kw5.frzO (by omega) z_b f_b0
  replace b1 := Kw5.cell (by omega) b1
  replace f_b1 := Kw5.frzO (by omega) z_b f_b1
  have z_q : w.heap.size < w5.heap.size := qB q0
  have z_b : gb < w5.heap.size := qB b0
  replace Rw4 := Rw4.chgO Kw5 (by omega)
  have s_w5 : w.heap.size ≤ w5.heap.size := Xw5.size
  clear Kw5
  go_wp2_with fail
  generalize hW7 : (w5.setCell ⟨gb, 1, none⟩ (.slice p6 (es.length + 1) c6)) = w6 at *
  have Kw6 : Chg (gb) (gb + 1) w5 w6 := by subst hW7; exact qCh
  have Xw6 : Rch rb w w6 := by subst hW7; exact qRt
  replace Rw4 := (Rd.set2 (a := ⟨gb, 1, none⟩) (u := .slice p6 (es.length + 1) c6) (show rb < gb by omega) Rw4)
  rw [hW7] at Rw4
  replace q0 := Kw6.cell (by omega) q0
  replace f_q0 := Kw6.frzO (by omega) z_q f_q0
  replace q1 := Kw6.cell (by omega) q1
  replace f_q1 := Kw6.frzO (by omega) z_q f_q1
  replace b0 : w6.cell? ⟨gb, 0, none⟩ = some (.slice p0 cells.length c0) := by subst hW7; go_simp
  replace f_b0 : w6.frozen? ⟨gb, 0, none⟩ = false := by subst hW7; first | (simp only [World.frozen?_setCell]; with_reducible assumption) | go_simp
  replace b1 : w6.cell? ⟨gb, 1, none⟩ = some (.slice p6 (es.length + 1) c6) := by subst hW7; go_simp
  replace f_b1 : w6.frozen? ⟨gb, 1, none⟩ = false := by subst hW7; first | (simp only [World.frozen?_setCell]; with_reducible assumption) | go_simp
  replace B6 := B6.chg Kw6 (by omega)
  clear Kw6
  have z_q : w.heap.size < w6.heap.size := qB q0
  have z_b : gb < w6.heap.size := qB b0
  have s_w6 : w.heap.size ≤ w6.heap.size := Xw6.size
  clear hW7
  go_wp2_with fail
  generalize hW8 : ((w6.setCell ⟨w.heap.size, 0, none⟩ (.slice p0 cells.length c0)).setCell ⟨w.heap.size, 1, none⟩ (.slice p6 (es.length + 1) c6)) = w7 at *
  have Kw7 : Chg (w.heap.size) (w.heap.size + 1) w6 w7 := by subst hW8; exact qCh
  have Xw7 : Rch rb w w7 := by subst hW8; exact qRt
  replace Rw4 := (Rd.set2 (a := ⟨w.heap.size, 1, none⟩) (u := .slice p6 (es.length + 1) c6) (show rb < w.heap.size by omega) (Rd.set2 (a := ⟨w.heap.size, 0, none⟩) (u := .slice p0 cells.length c0) (show rb < w.heap.size by omega) Rw4))
  rw [hW8] at Rw4
  replace q0 : w7.cell? ⟨w.heap.size, 0, none⟩ = some (.slice p0 cells.length c0) := by subst hW8; go_simp
  replace f_q0 : w7.frozen? ⟨w.heap.size, 0, none⟩ = false := by subst hW8; first | (simp only [World.frozen?_setCell]; with_reducible assumption) | go_simp
  replace q1 : w7.cell? ⟨w.heap.size, 1, none⟩ = some (.slice p6 (es.length + 1) c6) := by subst hW8; go_simp
  replace f_q1 : w7.frozen? ⟨w.heap.size, 1, none⟩ = false := by subst hW8; first | (simp only [World.frozen?_setCell]; with_reducible assumption) | go_simp
  replace b0 := Kw7.cell (by omega) b0
  replace f_b0 := Kw7.frzO (by omega) z_b f_b0
  replace b1 := Kw7.cell (by omega) b1
  replace f_b1 := Kw7.frzO (by omega) z_b f_b1
  replace B6 := B6.chg Kw7 (by omega)
  clear Kw7
  have z_q : w.heap.size < w7.heap.size := qB q0
  have z_b : gb < w7.heap.size := qB b0
  have s_w7 : w.heap.size ≤ w7.heap.size := Xw7.size
  clear hW8
  refine bodyPost_ret (v := .agg #[.slice p0 cells.length c0, .slice p6 (es.length + 1) c6]) (by simp only [results, Try.results33]; go_simp) rfl ?_
  exact ⟨_, _, _, _, _, rfl, B6.buf.lower (by omega), Lib.hid (smallX_exp hv.out (-1) 59 true), Rw4.mono (by omega), Xw7⟩
 ·
  skip
  have x0e : (x == 0) = false := beq_eq_false_iff_ne.2 (by omega)
  have x1e : (x == 1) = false := beq_eq_false_iff_ne.2 (by omega)
  have x2e : (x == 2) = false := beq_eq_false_iff_ne.2 (by omega)
  clear hx hx3
  go_wp2_with fail
  generalize hW9 : ((w4.setCell ⟨w.heap.size, 0, none⟩ (.slice p0 cells.length c0)).setCell ⟨w.heap.size, 1, none⟩ (.slice p1 es.length c1)) = w5 at *
  have Kw5 : Chg (w.heap.size) (w.heap.size + 1) w4 w5 := by subst hW9; exact qCh
  have Xw5 : Rch rb w w5 := by subst hW9; exact qRt
  replace Rw4 := (Rd.set2 (a := ⟨w.heap.size, 1, none⟩) (u := .slice p1 es.length c1) (show rb < w.heap.size by omega) (Rd.set2 (a := ⟨w.heap.size, 0, none⟩) (u := .slice p0 cells.length c0) (show rb < w.heap.size by omega) Rw4))
  rw [hW9] at Rw4
  replace q0 : w5.cell? ⟨w.heap.size, 0, none⟩ = some (.slice p0 cells.length c0) := by subst hW9; go_simp
  replace f_q0 : w5.frozen? ⟨w.heap.size, 0, none⟩ = false := by subst hW9; first | (simp only [World.frozen?_setCell]; with_reducible assumption) | go_simp
  replace q1 : w5.cell? ⟨w.heap.size, 1, none⟩ = some (.slice p1 es.length c1) := by subst hW9; go_simp
  replace f_q1 : w5.frozen? ⟨w.heap.size, 1, none⟩ = false := by subst hW9; first | (simp only [World.frozen?_setCell]; with_reducible assumption) | go_simp
  replace b0 := Kw5.cell (by omega) b0
  replace f_b0 := Kw5.frzO (by omega) z_b f_b0
  replace b1 := Kw5.cell (by omega) b1
  replace f_b1 := Kw5.frzO (by omega) z_b f_b1
  replace B := B.chg Kw5 (by omega)
  clear Kw5
  have z_q : w.heap.size < w5.heap.size := qB q0
  have z_b : gb < w5.heap.size := qB b0
  have s_w5 : w.heap.size ≤ w5.heap.size := Xw5.size
  clear hW9
  refine bodyPost_ret (v := .agg #[.slice p0 cells.length c0, .slice p1 es.length c1]) (by simp only [results, Try.results33]; go_simp) rfl ?_
  exact ⟨_, _, _, _, _, rfl, B.lower (by omega), Lib.hid (smallX_of hv.out), Rw4.mono (by omega), Xw5⟩

end Go.Proofs.Ytgklaobfikbiiaa

/- Walks: buffers and exports are drawn. -/
namespace Go.Proofs.Ytgklaobfikbiiaa
open Go.RowKit
set_option linter.unusedVariables false
set_option maxRecDepth 100000

end Go.Proofs.Ytgklaobfikbiiaa

/- Walks: draws of buffers. -/
namespace Go.Proofs.Ytgklaobfikbiiaa
open Go.RowKit
set_option linter.unusedVariables false
set_option maxRecDepth 100000

/-- a buffer and a number are drawn -/
def PDBI (w : World) (e : Ending) (w' : World) : Prop := ∃ (cells : List Int) (es : List Exp) (p0 p1 : Option Addr) (c0 c1 : Nat) (x : Int), e = .returned (.tuple #[.agg #[.slice p0 cells.length c0, .slice p1 es.length c1], .int .i64 x]) ∧
  Ints w' w.heap.size (.slice p0 cells.length c0) cells ∧ Exps w' w.heap.size (.slice p1 es.length c1) es ∧ Hid (SmallX cells es) ∧ (-1 ≤ x ∧ x ≤ 61) ∧ Ext w w'
theorem smallX_set {cells : List Int} {es : List Exp} (h : SmallX cells es) (i : Nat) (o : Bool) (hi : i < es.length) : SmallX cells (es.set i ⟨(expAt es i).par, (expAt es i).b, (expAt es i).s, (expAt es i).t, o⟩) :=
  ⟨h.1, by rw [List.length_set]; exact h.2.1, fun j hj => by
    rw [List.length_set] at hj
    rw [expAt_set es i _ j hi]
    by_cases hq : j = i
    · subst hq; rw [if_pos rfl]; exact h.2.2 j hj
    · rw [if_neg hq]; exact h.2.2 j hj⟩
theorem BufT.close {w : World} {lo m2 a n c : Nat} {cv : Value} {cells : List Int} {es : List Exp} {R : Nat → Value} (h : BufT w lo m2 cv (.slice (some ⟨a, 0, none⟩) n c) cells es R) (hn : n = es.length) (i : Nat) (hi : i < es.length) (o : Bool) :
    BufT (w.setCell ⟨a, i * 5 + 4, none⟩ (.bool o)) lo m2 cv (.slice (some ⟨a, 0, none⟩) n c) cells (es.set i ⟨(expAt es i).par, (expAt es i).b, (expAt es i).s, (expAt es i).t, o⟩) R := by
  refine ⟨h.buf.close hn i hi o, h.loc.c, h.loc.e, fun p hp hs => h.loc.r p (by rw [List.length_set] at hp; exact hp) (fun h2 => hs ?_)⟩
  unfold rowAt at h2 ⊢
  by_cases hq : p / 2 = i
  · subst hq; rw [expAt_setS es _ _ hi]; exact h2
  · rw [expAt_set es i _ _ hi, if_neg hq]; exact h2
end Go.Proofs.Ytgklaobfikbiiaa

/- Walks: ValidBuffer, LoadExport, KidsOf. -/
namespace Go.Proofs.Ytgklaobfikbiiaa
open Go.RowKit
set_option linter.unusedVariables false
set_option maxRecDepth 100000

set_option maxHeartbeats 3200000 in
theorem implValidBuffer_c (cells : List Int) (es : List Exp) (cv ev : Value) (w : World) (l1 l2 : Nat) (h1 : Ints w l1 cv cells) (h2 : Exps w l2 ev es) :
    Calls Try.prog 10 #[.agg #[cv, ev]] w (fun e w' => e = .returned (.bool (bufB cells es)) ∧ Ext w w') := by
  obtain ⟨p0, c0, rfl⟩ := h1.form
  obtain ⟨p1, c1, rfl⟩ := h2.form
  have he1 := h2.len
  have hc1 := h1.len
  go_enter Try.func10, Try.ntmps10
  go_wp2_with fail
  refine (isBuffer_c cells es (.slice p0 cells.length c0) (.slice p1 es.length c1) _ _ _ (h1.ext qXt) (h2.ext qXt)).mono ?_
  rintro e w1 ⟨rfl, xw1⟩
  have Lw1 : Ext w w1 := Ext.trans qXt xw1
  have Xw1 : Ext w w1 := Lw1
  have b10 : w1.cell? ⟨w.heap.size, 0, none⟩ = some (.slice p0 cells.length c0) := xw1.cell qCl
  have b11 : w1.cell? ⟨w.heap.size, 1, none⟩ = some (.slice p1 es.length c1) := xw1.cell qCl
  have z_b1 : w.heap.size < w1.heap.size := qB b10
  have s_w1 : w.heap.size ≤ w1.heap.size := Xw1.size
  clear xw1
  go_wp2_with fail
  go_ret
  exact ⟨rfl, (Xw1.trans qXt)⟩

end Go.Proofs.Ytgklaobfikbiiaa

/- What the joined form asks of the PROGRAM, whatever the function: each its own theorem. The head's long line of names is cut behind its third word first: read whole it outgrows the kernel's memory. -/
namespace Go.Proofs.Ytgklaobfikbiiaa.facts

theorem words_ne : ∀ l : List Char, wordsSigns l ≠ []
  | [] => by simp [wordsSigns]
  | c :: r => by
    unfold wordsSigns
    split
    · simp
    · simp
    · split <;> simp

theorem words_app (b : List Char) : ∀ a : List Char, wordsSigns (a ++ Char.ofNat 32 :: b) = wordsSigns a ++ wordsSigns b
  | [] => by rw [List.nil_append]; rfl
  | c :: r => by
    have ih := words_app b r
    by_cases h : c = Char.ofNat 32
    · subst h
      have e : ∀ l : List Char, wordsSigns (Char.ofNat 32 :: l) = [] :: wordsSigns l := fun l => rfl
      rw [List.cons_append, e, e, ih]; rfl
    · have e : ∀ l : List Char, wordsSigns (c :: l) = match wordsSigns l with | w :: ws => (c :: w) :: ws | [] => [[c]] := by
        intro l
        conv => lhs; unfold wordsSigns
        split
        · rename_i h1; cases h1
        · rename_i h1; cases h1; exact absurd rfl h
        · rename_i h1; cases h1; rfl
      rw [List.cons_append, e, e, ih]
      cases hr : wordsSigns r with
      | nil => exact absurd hr (words_ne r)
      | cons w ws => simp

theorem cut_at {l : List Char} (h : (l.drop 76).head? = some (Char.ofNat 32)) : l = l.take 76 ++ Char.ofNat 32 :: l.drop 77 := by
  have e := List.take_append_drop 76 l
  cases hd : l.drop 76 with
  | nil => rw [hd] at h; cases h
  | cons c r =>
    rw [hd] at h
    have hc : c = Char.ofNat 32 := Option.some.inj h
    have : l.drop 77 = r := by
      have := congrArg (List.drop 1) hd
      simpa [List.drop_drop] using this
    rw [this, ← hc, ← hd]; exact e.symm

set_option maxRecDepth 100000 in
theorem order : ∃ l, Try.checked.prog.initOrder = String.ofList l ∧ (l.drop 76).head? = some (Char.ofNat 32) ∧ ∀ W, behindMainWord (wordsSigns (l.take 76) ++ W) = "cut".toList :: W := by
  unfold Try.checked Try.prog
  refine ⟨_, rfl, ?_, ?_⟩
  · kernel_rfl
  · intro W; kernel_rfl

theorem behind_all : ∃ W, behindMainWord (wordsSigns Try.checked.prog.initOrder.toList) = "cut".toList :: W := by
  obtain ⟨l, e, h1, h2⟩ := order
  refine ⟨wordsSigns (l.drop 77), ?_⟩
  rw [e, String.toList_ofList, cut_at h1, words_app, ← cut_at h1]
  exact h2 _

theorem strip (W : List (List Char)) : stripLifts liftWords ("cut".toList :: W) = ([], "cut".toList :: W) := by kernel_rfl

theorem lifts : Try.checked.prog.headLifts = [] := by
  unfold Program.headLifts
  obtain ⟨W, e⟩ := behind_all
  rw [e, strip]
  kernel_rfl

theorem laysLater : Try.checked.prog.laysLater = false := by kernel_rfl
theorem bearsReflect : Try.checked.prog.bearsReflect = false := by kernel_rfl
theorem doorFits : Try.checked.prog.doorFits [] = true := by kernel_rfl

theorem mayEnter_of {P : Program} {W : List (List Char)} (e : behindMainWord (wordsSigns P.initOrder.toList) = "cut".toList :: W) (h1 : P.laysLater = false) (h2 : P.bearsReflect = false) (h3 : P.doorFits [] = true) : P.mayEnter = true := by
  unfold Program.mayEnter
  rw [e]
  simp only [strip, h1, h2, h3]
  kernel_rfl

theorem mayEnter : Try.checked.prog.mayEnter = true := by
  obtain ⟨W, e⟩ := behind_all
  exact mayEnter_of e laysLater bearsReflect doorFits

theorem liftsFinal_of {P : Program} {W : List (List Char)} (e : behindMainWord (wordsSigns P.initOrder.toList) = "cut".toList :: W) (h : P.headLifts = []) : P.liftsFinal = false := by
  unfold Program.liftsFinal
  rw [e, h]
  kernel_rfl

theorem liftsFinal : Try.checked.prog.liftsFinal = false := by
  obtain ⟨W, e⟩ := behind_all
  exact liftsFinal_of e lifts

theorem make_of {P : Program} {W : List (List Char)} (e : behindMainWord (wordsSigns P.initOrder.toList) = "cut".toList :: W) : P.make = some .cut := by
  unfold Program.make
  rw [e]
  kernel_rfl

theorem make : Try.checked.prog.make = some .cut := by
  obtain ⟨W, e⟩ := behind_all
  exact make_of e

theorem laid : laidOutB Try.checked.prog = true := by kernel_rfl
theorem mapped : mapsRowed Try.checked.prog = true := by kernel_rfl
theorem stops : Try.checked.prog.stops = [] := by kernel_rfl
theorem stopKnobs : Try.checked.prog.stopKnobs = [] := by kernel_rfl
theorem stopsHeard : Try.checked.prog.stopsHeard = true := by kernel_rfl
theorem plainKeys : Try.checked.prog.plainKeys = true := by kernel_rfl

set_option maxRecDepth 100000 in
theorem all {f : FuncId} {fn : Func} {s : ChangeSpec} {c : OpenClaim}
    (h1 : c.wf (OpenSpec.ofChange s) = true) (h2 : fn.params.all (Try.checked.prog.readableRec ·) = true) (h3 : namedTie Try.checked.prog c.named s.vars = true)
    (h4 : (c.stops == []) = true) (h5 : (c.knobs == []) = true)
    (h6 : (c.inPlace == Try.checked.prog.inPlace f) = true) (h7 : (c.unfollowed == Try.checked.prog.unfollowed f) = true) (h8 : (c.recurses == Try.checked.prog.recurses f) = true) (h9 : (c.named == Try.checked.prog.varsNamed f) = true)
    (h10 : (c.maps == (fn.params.toList ++ s.plain.varTypes Try.checked.prog).any (Try.checked.prog.mapsRec ·) && (c.ifaces == (fn.params.toList ++ s.plain.varTypes Try.checked.prog).any (Try.checked.prog.ifacesRec ·)) && (c.mapsOut == Try.checked.prog.mapsAmong fn.resultTypes.toList) &&
      (c.loops == (fn.params.toList ++ s.plain.varTypes Try.checked.prog).any (Try.checked.prog.loopsFrom ·)) && (c.wideKeys == (fn.params.toList ++ s.plain.varTypes Try.checked.prog ++ fn.resultTypes.toList).any (Try.checked.prog.wideKeysFrom ·))) = true)
    (h11 : (s.vars.all (Try.checked.prog.varReadable ·) && fn.resultTypes.all (fun t => Try.checked.prog.readableRec t && decide (t < Try.checked.prog.types.size)) && (c.ifacesOut == fn.resultTypes.toList.any (Try.checked.prog.ifacesRec ·)) && (c.loopsOut == fn.resultTypes.toList.any (Try.checked.prog.loopsFrom ·))) = true)
    (h12 : c.plainKeys = true) (h13 : c.shortTexts.isNone = true) (h14 : c.lifted = false) (h15 : c.make = .cut)
    (h16 : (c.kinds == (if c.domain.isEmpty then [] else fn.params.toList.map fun t => match Try.checked.prog.underlying t with | some (.int k) => some k | _ => none)) = true) (h17 : (c.pinned == c.pinnedBy) = true)
    (h18 : (c.veiled == (fn.params.toList ++ s.plain.varTypes Try.checked.prog ++ fn.resultTypes.toList).any (Try.checked.prog.veiledRec ·)) = true)
    (h19 : c.veiledFits Try.checked.prog fn.params.toList (fn.params.toList ++ s.plain.varTypes Try.checked.prog ++ fn.resultTypes.toList) = true) :
    joinedFacts Try.checked.prog f fn s c = true := by
  unfold joinedFacts
  simp only [Bool.and_eq_true] at h10 h11 ⊢
  obtain ⟨⟨⟨⟨a1, a2⟩, a3⟩, a4⟩, a5⟩ := h10
  obtain ⟨⟨⟨b1, b2⟩, b3⟩, b4⟩ := h11
  refine ⟨⟨⟨⟨⟨⟨⟨⟨⟨⟨⟨⟨⟨⟨⟨⟨⟨⟨⟨⟨⟨⟨⟨⟨⟨⟨⟨⟨⟨⟨⟨h1, laid⟩, mapped⟩, h2⟩, h3⟩, h4⟩, ?_⟩, h5⟩, ?_⟩, h6⟩, h7⟩, h8⟩, h9⟩, a1⟩, a2⟩, a3⟩, a4⟩, a5⟩, b1⟩, b2⟩, b3⟩, b4⟩, ?_⟩, h13⟩, stopsHeard⟩, mayEnter⟩, ?_⟩, ?_⟩, h16⟩, h17⟩, h18⟩, h19⟩
  · rw [stops]; rfl
  · rw [stopKnobs]; rfl
  · rw [plainKeys, h12]; rfl
  · rw [liftsFinal, h14]; rfl
  · rw [make, h15]; exact beq_self_eq_true _

end Go.Proofs.Ytgklaobfikbiiaa.facts
