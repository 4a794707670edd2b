/- Texts of these proofs put together: PvA, BoB, LawFnValidBuffer, RowFnValidBuffer. No condition. -/
import Derived.Test.YtgklaobfikbiiaaM5
import Derived.Test.YtgklaobfikbiiaaM4
import Derived.Test.YtgklaobfikbiiaaM3
import Derived.Test.YtgklaobfikbiiaaM7
import Derived.Test.YtgklaobfikbiiaaM6
set_option linter.unusedVariables false
set_option linter.unusedSimpArgs false
/- Plain laws on buffers: open exports, kids, closed exports. No condition. -/
namespace Go.Proofs.Ytgklaobfikbiiaa
open Go.RowKit
set_option linter.unusedVariables false
set_option maxRecDepth 100000

theorem mem_selL {p : Exp → Bool} {es : List Exp} {n : Nat} {x : Int} : x ∈ selL p es n ↔ ∃ k : Nat, k < n ∧ p (expAt es k) = true ∧ x = k := by
  unfold selL
  simp only [List.mem_map, List.mem_filter, List.mem_range]
  constructor
  · rintro ⟨k, ⟨h1, h2⟩, rfl⟩; exact ⟨k, h1, h2, rfl⟩
  · rintro ⟨k, h1, h2, rfl⟩; exact ⟨k, ⟨h1, h2⟩, rfl⟩
theorem selL_nil {p : Exp → Bool} {es : List Exp} {n : Nat} (h : ∀ k, k < n → p (expAt es k) = false) : selL p es n = [] := by
  rw [List.eq_nil_iff_forall_not_mem]
  intro x hx
  obtain ⟨k, hk, hp, -⟩ := mem_selL.1 hx
  rw [h k hk] at hp; cases hp
theorem openA_of {cells : List Int} {es : List Exp} (h : bufB cells es = true) : openA cells es = selL opP es es.length := by unfold openA; rw [h]; rfl
/-- the export, closed -/
def offE (e : Exp) : Exp := ⟨e.par, e.b, e.s, e.t, false⟩
/-- the exports, closed from the number m on -/
def shutE (es : List Exp) (m : Nat) : List Exp := (List.range es.length).map fun i => if m ≤ i then offE (expAt es i) else expAt es i
theorem shutE_len (es : List Exp) (m : Nat) : (shutE es m).length = es.length := by unfold shutE; simp
theorem shutE_at (es : List Exp) (m i : Nat) (hi : i < es.length) : expAt (shutE es m) i = if m ≤ i then offE (expAt es i) else expAt es i := by
  have h : i < (shutE es m).length := by rw [shutE_len]; exact hi
  rw [expAt_get h]
  simp [shutE]
theorem expAt_ext {a b : List Exp} (hl : a.length = b.length) (h : ∀ i, i < a.length → expAt a i = expAt b i) : a = b := by
  refine List.ext_getElem hl fun i h1 h2 => ?_
  rw [← expAt_get h1, ← expAt_get h2]; exact h i h1
theorem shutE_valid {cells : List Int} {es : List Exp} (h : bufB cells es = true) (m : Nat) : bufB cells (shutE es m) = true := by
  obtain ⟨g1, g2, g3⟩ := bufB_iff.1 h
  refine bufB_iff.2 ⟨g1, by rw [shutE_len]; exact g2, fun i hi => ?_⟩
  rw [shutE_len] at hi
  obtain ⟨e1, e2, e3, e4⟩ := expB_iff.1 (g3 i hi)
  refine expB_iff.2 ?_
  rw [shutE_at es m i hi]
  by_cases hm : m ≤ i
  · rw [if_pos hm]; exact ⟨e1, e2, e3, fun ho => by cases ho⟩
  · rw [if_neg hm]
    refine ⟨e1, e2, e3, fun ho => ⟨(e4 ho).1, ?_⟩⟩
    rcases (e4 ho).2 with hp | hp
    · exact .inl hp
    · rcases Int.lt_or_le (expAt es i).par 0 with h0 | h0
      · exact .inl h0
      · right
        rw [shutE_at es m _ (by omega), if_neg (by omega)]; exact hp
theorem shut_none (es : List Exp) : selL opP (shutE es 0) (shutE es 0).length = [] := by
  refine selL_nil fun k hk => ?_
  rw [shutE_len] at hk
  rw [shutE_at es 0 k hk, if_pos (Nat.zero_le _)]; rfl
theorem shut_open {cells : List Int} {es : List Exp} (h : bufB cells es = true) : openA cells (shutE es 0) = [] := by
  rw [openA_of (shutE_valid h 0), shut_none]
theorem buf_bare {cells : List Int} {es : List Exp} (h : bufB cells es = true) : bufB cells [] = true := by
  obtain ⟨g1, g2, g3⟩ := bufB_iff.1 h
  exact bufB_iff.2 ⟨g1, by simp, fun i hi => absurd hi (by simp)⟩
end Go.Proofs.Ytgklaobfikbiiaa

/- Words for memory: a row of exports whose own rows are shared; what append gives of such. No condition. -/
namespace Go.Proofs.Ytgklaobfikbiiaa
open Go.RowKit
set_option linter.unusedVariables false
set_option maxRecDepth 100000

section
variable {T E size bytes : Nat} {z : Value} {w : World} {B l m : Nat} {src : Value} {news : List Value}
/-- append of whatever comes to a literal without room -/
theorem run_app0R (hT : Try.prog.underlying T = some (.slice E)) (hI : (Try.prog.info? E).map (fun i => (i.zero, i.size, i.bytes)) = some (some z, size, bytes)) (hzs : z.cells.size = size) (hsz : 0 < size) (ty : TypeId)
    (O : w.ownsRow B E size (.slice (some ⟨l, 0, none⟩) 0 0) 0 []) (hB : B ≤ w.heap.size) (hs : SrcR w size src m news) (h63 : m ≤ 4194304) (hbytes : m * bytes ≤ 140737488355328) :
    ∃ g r w', (Builtin.append_ #[T, T] ty #[.slice (some ⟨l, 0, none⟩) 0 0, src]).run Try.prog w = .ok (.slice (some ⟨g, 0, none⟩) m r) w' ∧ w'.ownsRow B E size (.slice (some ⟨g, 0, none⟩) m r) m news ∧ Ext w w' ∧ (g = l ∨ w.heap.size ≤ g) ∧ g < w'.heap.size := by
  obtain ⟨i0, hi, hz0, hz1, hz2⟩ := info_parts hI
  obtain ⟨a, cap, rfl, h3, h4, h5, h6⟩ := hs
  by_cases hm : m = 0
  · subst hm
    obtain rfl : news = [] := List.eq_nil_of_length_eq_zero (by omega)
    refine ⟨l, 0, w, ?_, O, Ext.refl _, .inl rfl, (own_block_lt O l rfl).2⟩
    cases a with
    | none => simp [Builtin.append_, run_underlying hT, sizeOf, typeInfo, hi, Builtin.lenOf, Builtin.firstCells, storeCells]
    | some x => simp [Builtin.append_, run_underlying hT, sizeOf, typeInfo, hi, Builtin.lenOf, Builtin.firstCells, storeCells, loadCells, loadCellsFrom]
  · cases a with
    | none => exact absurd (h3 rfl).1 hm
    | some ad =>
      have hr := run_append_grow (P := Try.prog) w T ty E i0 z hT hi hz0 ⟨l, 0, none⟩ 0 0 [] (by simp) (fun j u hu => by simp at hu) ad m cap news (by rw [hz1]; exact h5) (h4 ad rfl) (by omega) (by omega) (growslice_fits (by omega) (by rw [hz2]; simpa using hbytes))
      have hge := grownCap_ge w (0 + m) 0 E
      have hcm : grownCap w (0 + m) 0 E ≤ maxLen := grownCap_le_maxLen w _ 0 _ (by unfold maxLen; omega)
      rw [Nat.zero_add] at hr hge hcm
      refine ⟨w.heap.size, _, _, hr, ?_, ((Ext.refl w).drew).alloc _, .inr (Nat.le_refl _), by simp⟩
      refine ⟨h5, .inr ⟨w.heap.size, _, _, rfl, hB, heap_alloc_new w.drew _, hge, hcm, ?_, ?_⟩⟩
      · simp [size_zeroCells, hzs, h5, ← Nat.add_mul]; congr 1; omega
      · simp [← h5]
theorem step_app0R (hT : Try.prog.underlying T = some (.slice E)) (hI : (Try.prog.info? E).map (fun i => (i.zero, i.size, i.bytes)) = some (some z, size, bytes)) (hzs : z.cells.size = size) (hsz : 0 < size)
    {ops : Array Oper} {o : Oper} {a : Act} {K : Act → World → Prop} {Q : Exit → Act → World → Prop} {F : Prop} (hgd : o.guard = none) (s x : Operand)
    (ho : o.op = .call { callee := .builtin .append, args := #[s, x], argTypes := #[T, T] })
    (hs : a.eval s = .slice (some ⟨l, 0, none⟩) 0 0) (hx : a.eval x = src) (O : w.ownsRow B E size (.slice (some ⟨l, 0, none⟩) 0 0) 0 []) (hB : B ≤ w.heap.size) (hsrc : SrcR w size src m news) (h63 : m ≤ 4194304) (hbytes : m * bytes ≤ 140737488355328)
    (hK : ∀ g r w', w'.ownsRow B E size (.slice (some ⟨g, 0, none⟩) m r) m news → Ext w w' → (g = l ∨ w.heap.size ≤ g) → g < w'.heap.size → K (a.put o.dst (.slice (some ⟨g, 0, none⟩) m r)) w') :
    if Region.wanted o (yielded ops a.tmps) = true then Oper.wp Try.prog o a w K Q else F := by
  have hw : Region.wanted o (yielded ops a.tmps) = true := by simp [Region.wanted, hgd]
  rw [if_pos hw]
  obtain ⟨g, r, w', hr, h1, h2, h3, h4⟩ := run_app0R hT hI hzs hsz o.type O hB hsrc h63 hbytes
  unfold Oper.wp execOp
  simp only [ho, resolve, invoke, builtin, Sem.run_bind, Sem.run_pure, Result.andThen_ok, List.map_toArray, List.map_cons, List.map_nil, hs, hx, hr]
  exact hK g r w' h1 h2 h3 h4
end
section
variable {w w' : World} {lo lo2 : Nat} {v : Value} {es : List Exp} {R : Nat → Value}
theorem SrcR.ext {size : Nat} {src : Value} {m : Nat} {news : List Value} (h : SrcR w size src m news) (hx : Ext w w') : SrcR w' size src m news := by
  obtain ⟨a, cap, rfl, h3, h4, h5, h6⟩ := h
  exact ⟨a, cap, rfl, h3, fun ad ha j u hu => hx.cell (h4 ad ha j u hu), h5, h6⟩
theorem OwnC.chgN {base E sz g n c l hi : Nat} {L : List (List Value)} (h : OwnC w base E sz (.slice (some ⟨g, 0, none⟩) n c) L) (k : Chg l hi w w') (hg : g < l ∨ hi ≤ g) : OwnC w' base E sz (.slice (some ⟨g, 0, none⟩) n c) L :=
  h.chgO k (fun x hx => by cases hx; exact hg)
theorem OwnC.lit0 (w : World) (base E sz : Nat) (hb : base ≤ w.heap.size) : OwnC (w.alloc (.cells #[] E)) base E sz (.slice (some ⟨w.heap.size, 0, none⟩) 0 0) [] := by
  simpa using OwnC.made (base := base) (E := E) (sz := sz) (L := []) w #[] 0 hb (by simp) rfl (fun c hc => by cases hc)
theorem cellsE_all (es : List Exp) (R : Nat → Value) : ∀ c ∈ cellsE es R, c.length = 5 := fun c hc => by
  unfold cellsE at hc
  obtain ⟨i, -, rfl⟩ := List.mem_map.1 hc
  rfl
/-- the cells that exports have, and where their rows lie -/
theorem Exps.rows (h : Exps w lo v es) : ∃ R, SrcR w 5 v es.length (cellsE es R).flatten ∧ ∀ p, p < 2 * es.length → Ints w lo (R p) (rowAt es p) := by
  obtain ⟨a, cap, rfl, h1, h2, ⟨h3, h3'⟩, h4⟩ := h
  have each : ∀ i, i < es.length → ∃ q : Value × Value, ∃ bl off, a = some ⟨bl, off, none⟩ ∧ (∀ j u, (eCells (expAt es i) q.1 q.2)[j]? = some u → w.cell? ⟨bl, off + (i * 5 + j), none⟩ = some u) ∧ Ints w lo q.1 (expAt es i).s ∧ Ints w lo q.2 (expAt es i).t ∧ q.1.oneCell' = true ∧ q.2.oneCell' = true := by
    intro i hi
    obtain ⟨bl, off, u1, c1, u2, c2, ha, -, k0, k1, k2, k3, k4, i1, i2⟩ := h4 i hi
    refine ⟨(.slice u1 (expAt es i).s.length c1, .slice u2 (expAt es i).t.length c2), bl, off, ha, fun j u hu => ?_, i1, i2, rfl, rfl⟩
    unfold eCells at hu
    match j with
    | 0 => simp at hu; subst hu; simpa [Nat.add_assoc] using k0
    | 1 => simp at hu; subst hu; simpa [Nat.add_assoc] using k1
    | 2 => simp at hu; subst hu; simpa [Nat.add_assoc] using k2
    | 3 => simp at hu; subst hu; simpa [Nat.add_assoc] using k3
    | 4 => simp at hu; subst hu; simpa [Nat.add_assoc] using k4
    | n+5 => simp at hu
  haveI : Inhabited (Value × Value) := ⟨(.slice none 0 0, .slice none 0 0)⟩
  obtain ⟨f, hf⟩ := Deep.choose_lt each
  refine ⟨fun p => if p % 2 = 0 then (f (p / 2)).1 else (f (p / 2)).2, ⟨a, cap, rfl, fun h => ⟨by have := h3' h; omega, h3' h⟩, ?_, ?_, ?_⟩, ?_⟩
  · intro ad had j u hu
    have hall : ∀ c ∈ cellsE es (fun p => if p % 2 = 0 then (f (p / 2)).1 else (f (p / 2)).2), c.length = 5 := fun c hc => by
      unfold cellsE at hc
      obtain ⟨i, -, rfl⟩ := List.mem_map.1 hc
      rfl
    have hj : j < es.length * 5 := by
      rcases Nat.lt_or_ge j (es.length * 5) with h | h
      · exact h
      · rw [List.getElem?_eq_none (by rw [flat_len hall, cellsE_len]; exact h)] at hu; cases hu
    have hi : j / 5 < es.length := by omega
    obtain ⟨bl, off, ha, hc, -⟩ := hf (j / 5) hi
    rw [had] at ha
    have ha' := Option.some.inj ha
    subst ha'
    have e : (⟨bl, off, none⟩ : Addr).add j = ⟨bl, off + j, none⟩ := by unfold Addr.add; split <;> simp_all
    have hg := flat_get hall (j / 5) (j % 5) (by rw [cellsE_len]; exact hi) (by omega)
    have hje : j / 5 * 5 + j % 5 = j := by omega
    rw [hje, hu, cellsE_get, if_pos (show (2 * (j / 5)) % 2 = 0 by omega), if_neg (show ¬ (2 * (j / 5) + 1) % 2 = 0 by omega), show 2 * (j / 5) / 2 = j / 5 by omega, show (2 * (j / 5) + 1) / 2 = j / 5 by omega] at hg
    have := hc (j % 5) u hg.symm
    rw [hje] at this
    rw [e]; exact this
  · have hall : ∀ c ∈ cellsE es (fun p => if p % 2 = 0 then (f (p / 2)).1 else (f (p / 2)).2), c.length = 5 := fun c hc => by
      unfold cellsE at hc
      obtain ⟨i, -, rfl⟩ := List.mem_map.1 hc
      rfl
    rw [flat_len hall, cellsE_len]
  · intro u hu
    obtain ⟨c, hc, huc⟩ := List.mem_flatten.1 hu
    unfold cellsE at hc
    obtain ⟨i, hi, rfl⟩ := List.mem_map.1 hc
    rw [List.mem_range] at hi
    obtain ⟨bl, off, -, -, -, -, o1, o2⟩ := hf i hi
    unfold eCells at huc
    simp only [List.mem_cons, List.not_mem_nil, or_false] at huc
    rcases huc with rfl | rfl | rfl | rfl | rfl
    · rfl
    · rfl
    · rw [if_pos (show (2 * i) % 2 = 0 by omega), show 2 * i / 2 = i by omega]; exact o1
    · rw [if_neg (show ¬ (2 * i + 1) % 2 = 0 by omega), show (2 * i + 1) / 2 = i by omega]; exact o2
    · rfl
  · intro p hp
    obtain ⟨bl, off, -, -, j1, j2, -, -⟩ := hf (p / 2) (by omega)
    by_cases hq : p % 2 = 0
    · show Ints w lo (if p % 2 = 0 then (f (p / 2)).1 else (f (p / 2)).2) (rowAt es p)
      rw [if_pos hq]; unfold rowAt; rw [if_pos hq]; exact j1
    · show Ints w lo (if p % 2 = 0 then (f (p / 2)).1 else (f (p / 2)).2) (rowAt es p)
      rw [if_neg hq]; unfold rowAt; rw [if_neg hq]; exact j2
/-- a row of exports with shared rows can be read -/
theorem expsC {g r : Nat} (h : OwnC w lo TEXPORT 5 (.slice (some ⟨g, 0, none⟩) es.length r) (cellsE es R)) (hn : ∀ p, p < 2 * es.length → Ints w lo2 (R p) (rowAt es p)) (hl : es.length ≤ 1048576) : Exps w 0 (.slice (some ⟨g, 0, none⟩) es.length r) es := by
  have e1 : (.slice (some ⟨g, 0, none⟩) es.length r : Value) = .slice (some ⟨g, 0, none⟩) (cellsE es R).length r := by rw [cellsE_len]
  by_cases he : es = []
  · subst he
    obtain ⟨hr, -⟩ := h
    rcases hr.2 with ⟨h0, _⟩ | ⟨g', cap, cur, hv, hb, hh, h1, h2, _⟩
    · cases h0
    · cases hv
      exact ⟨_, r, rfl, by simp, h2, ⟨by simp, fun h => by cases h⟩, fun i hi => absurd hi (by simp)⟩
  · have hb := h.lt (by intro h0; have := cellsE_len es R; rw [h0] at this; exact he (List.eq_nil_of_length_eq_zero this.symm))
    obtain ⟨g', c', hv, -, -, -, hc, hm⟩ := hb
    rw [cellsE_len] at hv hc
    cases hv
    refine ⟨_, r, rfl, hc, hm, ⟨hl, fun h => by cases h⟩, fun i hi => ?_⟩
    rw [e1] at h
    have k := fun j (hj : j < 5) => (h.cell i j (by rw [cellsE_len]; exact hi) hj).1
    rw [cellsE_get] at k
    have i1 := hn (2 * i) (by omega)
    have i2 := hn (2 * i + 1) (by omega)
    rw [rowAt_even] at i1
    rw [rowAt_odd] at i2
    obtain ⟨u1, c1, e2⟩ := i1.form
    obtain ⟨u2, c2, e3⟩ := i2.form
    rw [e2] at i1
    rw [e3] at i2
    refine ⟨g, 0, u1, c1, u2, c2, rfl, Nat.zero_le _, ?_, ?_, ?_, ?_, ?_, i1.lower (Nat.zero_le _), i2.lower (Nat.zero_le _)⟩
    · have := k 0 (by omega); rw [Nat.zero_add]; exact this
    · have := k 1 (by omega); rw [Nat.zero_add]; exact this
    · have := k 2 (by omega); rw [Nat.zero_add, ← e2]; exact this
    · have := k 3 (by omega); rw [Nat.zero_add, ← e3]; exact this
    · have := k 4 (by omega); rw [Nat.zero_add]; exact this
/-- an export in such a row is closed -/
theorem OwnC.shut {g n c : Nat} (h : OwnC w lo TEXPORT 5 (.slice (some ⟨g, 0, none⟩) n c) (cellsE es R)) (hn : n = es.length) (i : Nat) (hi : i < es.length) :
    OwnC (w.setCell ⟨g, i * 5 + 4, none⟩ (.bool false)) lo TEXPORT 5 (.slice (some ⟨g, 0, none⟩) n c) (cellsE (es.set i (offE (expAt es i))) R) := by
  have h2 := h.setN (by rw [cellsE_len]; exact hn) i 4 (by rw [cellsE_len]; exact hi) (by omega) (.bool false)
  rw [cellsE_get] at h2
  rw [cellsE_set es R i hi]
  exact h2
theorem OwnC.at5 {g n c : Nat} (h : OwnC w lo TEXPORT 5 (.slice (some ⟨g, 0, none⟩) n c) (cellsE es R)) (hn : n = es.length) (i : Nat) (hi : i < es.length) :
    w.cell? ⟨g, i * 5 + 4, none⟩ = some (.bool (expAt es i).op) ∧ w.frozen? ⟨g, i * 5 + 4, none⟩ = false := by
  subst hn
  have e1 : (.slice (some ⟨g, 0, none⟩) es.length c : Value) = .slice (some ⟨g, 0, none⟩) (cellsE es R).length c := by rw [cellsE_len]
  rw [e1] at h
  have := h.cell i 4 (by rw [cellsE_len]; exact hi) (by omega)
  rw [cellsE_get] at this
  exact this
end
/-- the first m exports, closed -/
def headE (es : List Exp) (m : Nat) : List Exp := (List.range es.length).map fun i => if i < m then offE (expAt es i) else expAt es i
theorem headE_len (es : List Exp) (m : Nat) : (headE es m).length = es.length := by unfold headE; simp
theorem headE_at (es : List Exp) (m i : Nat) (hi : i < es.length) : expAt (headE es m) i = if i < m then offE (expAt es i) else expAt es i := by
  have h : i < (headE es m).length := by rw [headE_len]; exact hi
  rw [expAt_get h]
  simp [headE]
theorem headE_zero (es : List Exp) : headE es 0 = es := by
  refine expAt_ext (headE_len es 0) fun i hi => ?_
  rw [headE_len] at hi
  rw [headE_at es 0 i hi, if_neg (by omega)]
theorem headE_all (es : List Exp) : headE es es.length = shutE es 0 := by
  refine expAt_ext (by rw [headE_len, shutE_len]) fun i hi => ?_
  rw [headE_len] at hi
  rw [headE_at es _ i hi, if_pos hi, shutE_at es 0 i hi, if_pos (Nat.zero_le _)]
theorem headE_step (es : List Exp) (m : Nat) (hm : m < es.length) : (headE es m).set m (offE (expAt (headE es m) m)) = headE es (m+1) := by
  refine expAt_ext (by rw [List.length_set, headE_len, headE_len]) fun i hi => ?_
  rw [List.length_set, headE_len] at hi
  rw [expAt_set _ _ _ _ (by rw [headE_len]; exact hm), headE_at es m i hi, headE_at es m m hm, headE_at es _ i hi, if_neg (Nat.lt_irrefl _)]
  by_cases hq : i = m
  · subst hq; rw [if_pos rfl, if_pos (by omega)]
  · rw [if_neg hq]
    by_cases h2 : i < m
    · rw [if_pos h2, if_pos (by omega)]
    · rw [if_neg h2, if_neg (by omega)]
theorem shut_law {cells : List Int} {es fs : List Exp} (h : bufB cells es = true) (hf : shutE es 0 = fs) : bufB cells fs = true ∧ bufB cells [] = true ∧ openA cells fs = [] := by
  subst hf
  exact ⟨shutE_valid h 0, buf_bare h, shut_open h⟩
theorem headE_row (es : List Exp) (m p : Nat) (hp : p < 2 * es.length) : rowAt (headE es m) p = rowAt es p := by
  unfold rowAt
  rw [headE_at es m _ (by omega)]
  split <;> split <;> rfl
end Go.Proofs.Ytgklaobfikbiiaa

/- FnValidBuffer returns true for all bytes: no condition. -/
namespace Go.Proofs.Ytgklaobfikbiiaa
open Go.RowKit
set_option linter.unusedVariables false
set_option maxRecDepth 100000

set_option maxHeartbeats 6400000 in
theorem lawFnValidBuffer_c (a : Option Addr) (n cap : Nat) (w : World) (hb : BysIn w a n cap) :
  Calls Try.prog 3 #[.slice a n cap] w fun e w' => e = .returned (.bool true) ∧ Ext w w' := by
 have hcm := hb.1
 have hcm2 := hb.2.1
 unfold maxLen at hcm2
 go_enter Try.func3, Try.ntmps3
 by_cases hc1 : (1048576 : Int) < (n : Int)
 ·
  go_wp2_with fail
  go_ret
  exact ⟨rfl, qXo⟩
 ·
  go_wp2_with fail
  refine (drawValidBuffer_c a n cap _ hb).mono ?_
  rintro e w1 ⟨cells, es, p0, p1, c0, c1, rfl, i1, i2, hs, xw1⟩
  have Lw1 : Ext w w1 := Ext.trans qXt xw1
  have Xw1 : Ext w w1 := Lw1
  have s_w1 : w.heap.size ≤ w1.heap.size := Xw1.size
  clear xw1
  clear hb
  have hc61 := hs.out.1
  have he9 := hs.out.2.1
  go_wp2_with fail
  refine (implValidBuffer_c cells es (.slice p0 cells.length c0) (.slice p1 es.length c1) _ _ _ (i1.ext qXt) (i2.ext qXt)).mono ?_
  rintro e w2 ⟨rfl, xw2⟩
  have Lw2 : Ext w1 w2 := Ext.trans qXt xw2
  have Xw2 : Ext w w2 := Xw1.trans Lw2
  have b20 : w2.cell? ⟨w1.heap.size, 0, none⟩ = some (.slice p0 cells.length c0) := xw2.cell qCl
  have b21 : w2.cell? ⟨w1.heap.size, 1, none⟩ = some (.slice p1 es.length c1) := xw2.cell qCl
  have z_b2 : w1.heap.size < w2.heap.size := qB b20
  replace i1 := i1.ext Lw2
  replace i2 := i2.ext Lw2
  have s_w2 : w.heap.size ≤ w2.heap.size := Xw2.size
  clear xw2
  cases hB3 : bufB cells es
  ·
   replace hB3 := Lib.hid hB3
   go_wp2_with fail
   refine (specValidBuffer_c cells es (.slice p0 cells.length c0) (.slice p1 es.length c1) _ _ _ (i1.ext qXt) (i2.ext qXt)).mono ?_
   rintro e w3 ⟨rfl, xw3⟩
   have Lw3 : Ext w2 w3 := Ext.trans qXt xw3
   have Xw3 : Ext w w3 := Xw2.trans Lw3
   replace b20 := Lw3.cell b20
   replace b21 := Lw3.cell b21
   have z_b2 : w1.heap.size < w3.heap.size := qB b20
   replace i1 := i1.ext Lw3
   replace i2 := i2.ext Lw3
   have s_w3 : w.heap.size ≤ w3.heap.size := Xw3.size
   clear xw3
   rw [hB3.out]
   go_wp2_with fail
   refine (specValidBuffer_c cells es (.slice p0 cells.length c0) (.slice p1 es.length c1) _ _ _ (i1.ext qXt) (i2.ext qXt)).mono ?_
   rintro e w4 ⟨rfl, xw4⟩
   have Lw4 : Ext w3 w4 := Ext.trans qXt xw4
   have Xw4 : Ext w w4 := Xw3.trans Lw4
   replace b20 := Lw4.cell b20
   replace b21 := Lw4.cell b21
   have z_b2 : w1.heap.size < w4.heap.size := qB b20
   replace i1 := i1.ext Lw4
   replace i2 := i2.ext Lw4
   have s_w4 : w.heap.size ≤ w4.heap.size := Xw4.size
   clear xw4
   rw [hB3.out]
   go_wp2_with fail
   go_ret
   exact ⟨rfl, (Xw4.trans qXt)⟩
  ·
   replace hB3 := Lib.hid hB3
   go_wp2_with fail
   refine (specValidBuffer_c cells es (.slice p0 cells.length c0) (.slice p1 es.length c1) _ _ _ (i1.ext qXt) (i2.ext qXt)).mono ?_
   rintro e w3 ⟨rfl, xw3⟩
   have Lw3 : Ext w2 w3 := Ext.trans qXt xw3
   have Xw3 : Ext w w3 := Xw2.trans Lw3
   replace b20 := Lw3.cell b20
   replace b21 := Lw3.cell b21
   have z_b2 : w1.heap.size < w3.heap.size := qB b20
   replace i1 := i1.ext Lw3
   replace i2 := i2.ext Lw3
   have s_w3 : w.heap.size ≤ w3.heap.size := Xw3.size
   clear xw3
   rw [hB3.out]
   go_wp2_with fail
   obtain ⟨R, hSr, hNr⟩ := i2.rows
   replace hSr := Lib.hid hSr
   replace hNr := Lib.hid hNr
   go_wp2_with fail
   have Q4_b20 := Lib.hid b20
   have Q4_b21 := Lib.hid b21
   have Q4_zb2 := z_b2
   have Q4_i1 := Lib.hid i1
   have Q4_i2 := Lib.hid i2
   have BL5 : Ext w3 w3 := Ext.refl _
   go_cut [5] (fun s5 wx => ∃ (g5 : Nat) (r5 : Nat) (g7 : Nat), s5 = .pointer (some ⟨g7, 0, none⟩) ∧ Ext w3 wx ∧ w3.heap.size ≤ g5 ∧ g5 < wx.heap.size ∧ w3.heap.size ≤ g7 ∧ g7 < wx.heap.size ∧ g5 ≠ g7 ∧ OwnC wx w3.heap.size TEXPORT 5 (.slice (some ⟨g5, 0, none⟩) es.length r5) (cellsE es R) ∧ wx.cell? ⟨g7, 0, none⟩ = some (.slice p0 cells.length c0) ∧ wx.frozen? ⟨g7, 0, none⟩ = false ∧ wx.cell? ⟨g7, 1, none⟩ = some (.slice (some ⟨g5, 0, none⟩) es.length r5) ∧ wx.frozen? ⟨g7, 1, none⟩ = false)
   case first =>
    have X7 : Ext w3 w3 := Ext.refl _
    refine wp_region_held_drew (S := fun w' => w'.cell? ⟨w1.heap.size, 0, none⟩ = some (.slice p0 cells.length c0) ∧ w'.cell? ⟨w1.heap.size, 1, none⟩ = some (.slice p1 es.length c1)) qKr ⟨b20, b21⟩ (fun hHeld => ?_)
    refine qHk (v := ?_) 0 rfl (.inl ⟨by rfl, ?_⟩) ?_
    rotate_left
    ·
     (intro w hSw; (try dsimp only at hSw); go_simp; try with_reducible rfl)
    try simp only [Act.put, qa, qb, qc, qD, qE, qF]
    refine qHk (v := ?_) 1 rfl (.inl ⟨by rfl, ?_⟩) ?_
    rotate_left
    ·
     (intro w hSw; (try dsimp only at hSw); go_simp; try with_reducible rfl)
    try simp only [Act.put, qa, qb, qc, qD, qE, qF]
    refine qHk (v := ?_) 3 rfl (.inl ⟨by rfl, ?_⟩) ?_
    rotate_left
    ·
     (intro w hSw; (try dsimp only at hSw); go_simp; try with_reducible rfl)
    try simp only [Act.put, qa, qb, qc, qD, qE, qF]
    refine qHk (v := ?_) 4 rfl (.inl ⟨by rfl, ?_⟩) ?_
    rotate_left
    ·
     (intro w hSw; (try dsimp only at hSw); go_simp; try with_reducible rfl)
    try simp only [Act.put, qa, qb, qc, qD, qE, qF]
    refine wpAnyH_ready (rs := [2, 7]) qKr (by simp) ?_
    refine AllReadyH.cons rfl (fun K hK => ?_) (AllReadyH.cons rfl (fun K hK => ?_) AllReadyH.nil)
    ·
     try simp only [Act.put, qa, qb, qc, qD, qE, qF]
     go_simp
     refine hK.out _ (w3.drew.alloc (.cells #[] TEXPORT)) ⟨(show Ext w3 (w3.drew.alloc (.cells #[] TEXPORT)) from qXt).cell b20, (show Ext w3 (w3.drew.alloc (.cells #[] TEXPORT)) from qXt).cell b21⟩ (fun hHeld => ?_)
     clear hK K
     try simp only [Act.put, qa, qb, qc, qD, qE, qF]
     generalize hW1 : w3.drew.alloc (.cells #[] TEXPORT) = w7_1 at *
     have S_w7_1 : w3.heap.size < w7_1.heap.size := by subst hW1; simp
     have hx7 : Ext w3 w7_1 := by subst hW1; exact qXt
     replace X7 := X7.trans hx7
     clear hx7
     have O7_2 : OwnC w7_1 w3.heap.size TEXPORT 5 (.slice (some ⟨w3.heap.size, 0, none⟩) 0 0) [] := by subst hW1; exact OwnC.lit0 _ _ _ _ (by first | exact Nat.le_refl _ | omega | (simp; omega))
     have Yw7_1 := Ext.refl w7_1
     clear hW1
     refine wpAnyH_ready (rs := [5, 7]) qKr (by simp) ?_
     refine AllReadyH.cons rfl (fun K hK => ?_) (AllReadyH.cons rfl (fun K hK => ?_) AllReadyH.nil)
     ·
      refine step_app0R Try.underlying24 infoExp rfl (by decide) rfl (.tmp 28) (.tmp 30) rfl rfl rfl (O7_2.ext Yw7_1).1 (by omega) (hSr.out.ext (show Ext w3 w7_1 from qXt)) (by omega) (by omega) ?_
      intro g7_6 r7_7 w7_3 O7_4 x7_5 Eg7_6 Hg7_6
      have O7_4c : OwnC w7_3 w3.heap.size TEXPORT 5 (.slice (some ⟨g7_6, 0, none⟩) es.length r7_7) (cellsE es R) := ⟨by rw [cellsE_len]; exact O7_4, cellsE_all _ _⟩
      clear O7_4
      have S_w7_3 : w7_1.heap.size ≤ w7_3.heap.size := x7_5.size
      replace Yw7_1 := Yw7_1.trans x7_5
      replace X7 := X7.trans x7_5
      have Yw7_3 := Ext.refl w7_3
      clear x7_5
      refine hK.out _ w7_3 ⟨(show Ext w3 w7_3 from qXt).cell b20, (show Ext w3 w7_3 from qXt).cell b21⟩ (fun hHeld => ?_)
      clear hK K
      try simp only [Act.put, qa, qb, qc, qD, qE, qF]
      refine qHk (v := ?_) 6 rfl (.inl ⟨by rfl, ?_⟩) ?_
      rotate_left
      ·
       (intro w hSw; (try dsimp only at hSw); go_simp; try with_reducible rfl)
      try simp only [Act.put, qa, qb, qc, qD, qE, qF]
      refine qHr 7 rfl (fun K hK => ?_)
      try simp only [Act.put, qa, qb, qc, qD, qE, qF]
      go_simp
      refine hK.out _ (w7_3.alloc (.cells #[.slice none 0 0, .slice none 0 0] 26)) ⟨(show Ext w3 (w7_3.alloc (.cells #[.slice none 0 0, .slice none 0 0] 26)) from qXt).cell b20, (show Ext w3 (w7_3.alloc (.cells #[.slice none 0 0, .slice none 0 0] 26)) from qXt).cell b21⟩ (fun hHeld => ?_)
      clear hK K
      try simp only [Act.put, qa, qb, qc, qD, qE, qF]
      generalize hW2 : w7_3.alloc (.cells #[.slice none 0 0, .slice none 0 0] 26) = w7_8 at *
      have S_w7_8 : w7_3.heap.size < w7_8.heap.size := by subst hW2; simp
      have hx7 : Ext w7_3 w7_8 := by subst hW2; exact qXt
      replace Yw7_3 := Yw7_3.trans hx7
      replace X7 := X7.trans hx7
      clear hx7
      have b7_90 : w7_8.cell? ⟨w7_3.heap.size, 0, none⟩ = some (.slice none 0 0) := by subst hW2; exact qCl
      have f_b7_90 : w7_8.frozen? ⟨w7_3.heap.size, 0, none⟩ = false := by subst hW2; exact qFz
      have b7_91 : w7_8.cell? ⟨w7_3.heap.size, 1, none⟩ = some (.slice none 0 0) := by subst hW2; exact qCl
      have f_b7_91 : w7_8.frozen? ⟨w7_3.heap.size, 1, none⟩ = false := by subst hW2; exact qFz
      have z_b7_9 : w7_3.heap.size < w7_8.heap.size := by subst hW2; exact S_w7_8
      have Yw7_8 := Ext.refl w7_8
      clear hW2
      refine qHr 8 rfl (fun K hK => ?_)
      try simp only [Act.put, qa, qb, qc, qD, qE, qF]
      replace b7_90 := Yw7_8.cell b7_90
      replace b7_91 := Yw7_8.cell b7_91
      replace f_b7_90 := Yw7_8.frz z_b7_9 f_b7_90
      replace f_b7_91 := Yw7_8.frz z_b7_9 f_b7_91
      go_simp
      have zz := X7.size
      have K7 : Chg w7_3.heap.size (w7_3.heap.size + 1) w7_8 ((w7_8.setCell ⟨w7_3.heap.size, 0, none⟩ (.slice p0 cells.length c0)).setCell ⟨w7_3.heap.size, 1, none⟩ (.slice (some ⟨g7_6, 0, none⟩) es.length r7_7)) := (Chg.setCell (p := ⟨w7_3.heap.size, 1, none⟩) (Chg.setCell (p := ⟨w7_3.heap.size, 0, none⟩) (Chg.refl w7_3.heap.size (w7_3.heap.size + 1) w7_8) (Nat.le_refl _) (Nat.lt_succ_self _) _) (Nat.le_refl _) (Nat.lt_succ_self _) _)
      have n_b7_90 : ((w7_8.setCell ⟨w7_3.heap.size, 0, none⟩ (.slice p0 cells.length c0)).setCell ⟨w7_3.heap.size, 1, none⟩ (.slice (some ⟨g7_6, 0, none⟩) es.length r7_7)).cell? ⟨w7_3.heap.size, 0, none⟩ = some (.slice p0 cells.length c0) := by go_simp
      replace f_b7_90 : ((w7_8.setCell ⟨w7_3.heap.size, 0, none⟩ (.slice p0 cells.length c0)).setCell ⟨w7_3.heap.size, 1, none⟩ (.slice (some ⟨g7_6, 0, none⟩) es.length r7_7)).frozen? ⟨w7_3.heap.size, 0, none⟩ = false := by go_simp
      have n_b7_91 : ((w7_8.setCell ⟨w7_3.heap.size, 0, none⟩ (.slice p0 cells.length c0)).setCell ⟨w7_3.heap.size, 1, none⟩ (.slice (some ⟨g7_6, 0, none⟩) es.length r7_7)).cell? ⟨w7_3.heap.size, 1, none⟩ = some (.slice (some ⟨g7_6, 0, none⟩) es.length r7_7) := by go_simp
      replace f_b7_91 : ((w7_8.setCell ⟨w7_3.heap.size, 0, none⟩ (.slice p0 cells.length c0)).setCell ⟨w7_3.heap.size, 1, none⟩ (.slice (some ⟨g7_6, 0, none⟩) es.length r7_7)).frozen? ⟨w7_3.heap.size, 1, none⟩ = false := by go_simp
      replace b7_90 := n_b7_90
      clear n_b7_90
      replace b7_91 := n_b7_91
      clear n_b7_91
      replace O7_4c := (O7_4c.ext Yw7_3).chgN K7 (by omega)
      replace X7 : Ext w3 ((w7_8.setCell ⟨w7_3.heap.size, 0, none⟩ (.slice p0 cells.length c0)).setCell ⟨w7_3.heap.size, 1, none⟩ (.slice (some ⟨g7_6, 0, none⟩) es.length r7_7)) := (Ext.setCell (p := ⟨w7_3.heap.size, 1, none⟩) (Ext.setCell (p := ⟨w7_3.heap.size, 0, none⟩) X7 (by dsimp only; omega) _) (by dsimp only; omega) _)
      clear zz K7
      have S_st : w7_8.heap.size ≤ ((w7_8.setCell ⟨w7_3.heap.size, 0, none⟩ (.slice p0 cells.length c0)).setCell ⟨w7_3.heap.size, 1, none⟩ (.slice (some ⟨g7_6, 0, none⟩) es.length r7_7)).heap.size := by simp
      refine hK.out _ (((w7_8.setCell ⟨w7_3.heap.size, 0, none⟩ (.slice p0 cells.length c0)).setCell ⟨w7_3.heap.size, 1, none⟩ (.slice (some ⟨g7_6, 0, none⟩) es.length r7_7))) ⟨(show Ext w3 (((w7_8.setCell ⟨w7_3.heap.size, 0, none⟩ (.slice p0 cells.length c0)).setCell ⟨w7_3.heap.size, 1, none⟩ (.slice (some ⟨g7_6, 0, none⟩) es.length r7_7))) from qXt).cell b20, (show Ext w3 (((w7_8.setCell ⟨w7_3.heap.size, 0, none⟩ (.slice p0 cells.length c0)).setCell ⟨w7_3.heap.size, 1, none⟩ (.slice (some ⟨g7_6, 0, none⟩) es.length r7_7))) from qXt).cell b21⟩ (fun hHeld => ?_)
      clear hK K
      try simp only [Act.put, qa, qb, qc, qD, qE, qF]
      refine wpAnyH_done qKr ?_ _
      clear hHeld
      have zz := X7.size
      go_step
      go_step
      go_meet
      case rel => exact ⟨g7_6, r7_7, w7_3.heap.size, rfl, X7, (by omega), (by omega), (by omega), (by omega), (by omega), (O7_4c).lower (by omega), b7_90, f_b7_90, b7_91, f_b7_91⟩
     ·
      try simp only [Act.put, qa, qb, qc, qD, qE, qF]
      go_simp
      refine hK.out _ (w7_1.alloc (.cells #[.slice none 0 0, .slice none 0 0] 26)) ⟨(show Ext w3 (w7_1.alloc (.cells #[.slice none 0 0, .slice none 0 0] 26)) from qXt).cell b20, (show Ext w3 (w7_1.alloc (.cells #[.slice none 0 0, .slice none 0 0] 26)) from qXt).cell b21⟩ (fun hHeld => ?_)
      clear hK K
      try simp only [Act.put, qa, qb, qc, qD, qE, qF]
      generalize hW3 : w7_1.alloc (.cells #[.slice none 0 0, .slice none 0 0] 26) = w7_10 at *
      have S_w7_10 : w7_1.heap.size < w7_10.heap.size := by subst hW3; simp
      have hx7 : Ext w7_1 w7_10 := by subst hW3; exact qXt
      replace Yw7_1 := Yw7_1.trans hx7
      replace X7 := X7.trans hx7
      clear hx7
      have b7_110 : w7_10.cell? ⟨w7_1.heap.size, 0, none⟩ = some (.slice none 0 0) := by subst hW3; exact qCl
      have f_b7_110 : w7_10.frozen? ⟨w7_1.heap.size, 0, none⟩ = false := by subst hW3; exact qFz
      have b7_111 : w7_10.cell? ⟨w7_1.heap.size, 1, none⟩ = some (.slice none 0 0) := by subst hW3; exact qCl
      have f_b7_111 : w7_10.frozen? ⟨w7_1.heap.size, 1, none⟩ = false := by subst hW3; exact qFz
      have z_b7_11 : w7_1.heap.size < w7_10.heap.size := by subst hW3; exact S_w7_10
      have Yw7_10 := Ext.refl w7_10
      clear hW3
      refine qHr 5 rfl (fun K hK => ?_)
      refine step_app0R Try.underlying24 infoExp rfl (by decide) rfl (.tmp 28) (.tmp 30) rfl rfl rfl (O7_2.ext Yw7_1).1 (by omega) (hSr.out.ext (show Ext w3 w7_10 from qXt)) (by omega) (by omega) ?_
      intro g7_15 r7_16 w7_12 O7_13 x7_14 Eg7_15 Hg7_15
      have O7_13c : OwnC w7_12 w3.heap.size TEXPORT 5 (.slice (some ⟨g7_15, 0, none⟩) es.length r7_16) (cellsE es R) := ⟨by rw [cellsE_len]; exact O7_13, cellsE_all _ _⟩
      clear O7_13
      have S_w7_12 : w7_10.heap.size ≤ w7_12.heap.size := x7_14.size
      replace Yw7_1 := Yw7_1.trans x7_14
      replace Yw7_10 := Yw7_10.trans x7_14
      replace X7 := X7.trans x7_14
      have Yw7_12 := Ext.refl w7_12
      clear x7_14
      refine hK.out _ w7_12 ⟨(show Ext w3 w7_12 from qXt).cell b20, (show Ext w3 w7_12 from qXt).cell b21⟩ (fun hHeld => ?_)
      clear hK K
      try simp only [Act.put, qa, qb, qc, qD, qE, qF]
      refine qHk (v := ?_) 6 rfl (.inl ⟨by rfl, ?_⟩) ?_
      rotate_left
      ·
       (intro w hSw; (try dsimp only at hSw); go_simp; try with_reducible rfl)
      try simp only [Act.put, qa, qb, qc, qD, qE, qF]
      refine qHr 8 rfl (fun K hK => ?_)
      try simp only [Act.put, qa, qb, qc, qD, qE, qF]
      replace b7_110 := Yw7_10.cell b7_110
      replace b7_111 := Yw7_10.cell b7_111
      replace f_b7_110 := Yw7_10.frz z_b7_11 f_b7_110
      replace f_b7_111 := Yw7_10.frz z_b7_11 f_b7_111
      go_simp
      have zz := X7.size
      have K7 : Chg w7_1.heap.size (w7_1.heap.size + 1) w7_12 ((w7_12.setCell ⟨w7_1.heap.size, 0, none⟩ (.slice p0 cells.length c0)).setCell ⟨w7_1.heap.size, 1, none⟩ (.slice (some ⟨g7_15, 0, none⟩) es.length r7_16)) := (Chg.setCell (p := ⟨w7_1.heap.size, 1, none⟩) (Chg.setCell (p := ⟨w7_1.heap.size, 0, none⟩) (Chg.refl w7_1.heap.size (w7_1.heap.size + 1) w7_12) (Nat.le_refl _) (Nat.lt_succ_self _) _) (Nat.le_refl _) (Nat.lt_succ_self _) _)
      have n_b7_110 : ((w7_12.setCell ⟨w7_1.heap.size, 0, none⟩ (.slice p0 cells.length c0)).setCell ⟨w7_1.heap.size, 1, none⟩ (.slice (some ⟨g7_15, 0, none⟩) es.length r7_16)).cell? ⟨w7_1.heap.size, 0, none⟩ = some (.slice p0 cells.length c0) := by go_simp
      replace f_b7_110 : ((w7_12.setCell ⟨w7_1.heap.size, 0, none⟩ (.slice p0 cells.length c0)).setCell ⟨w7_1.heap.size, 1, none⟩ (.slice (some ⟨g7_15, 0, none⟩) es.length r7_16)).frozen? ⟨w7_1.heap.size, 0, none⟩ = false := by go_simp
      have n_b7_111 : ((w7_12.setCell ⟨w7_1.heap.size, 0, none⟩ (.slice p0 cells.length c0)).setCell ⟨w7_1.heap.size, 1, none⟩ (.slice (some ⟨g7_15, 0, none⟩) es.length r7_16)).cell? ⟨w7_1.heap.size, 1, none⟩ = some (.slice (some ⟨g7_15, 0, none⟩) es.length r7_16) := by go_simp
      replace f_b7_111 : ((w7_12.setCell ⟨w7_1.heap.size, 0, none⟩ (.slice p0 cells.length c0)).setCell ⟨w7_1.heap.size, 1, none⟩ (.slice (some ⟨g7_15, 0, none⟩) es.length r7_16)).frozen? ⟨w7_1.heap.size, 1, none⟩ = false := by go_simp
      replace b7_110 := n_b7_110
      clear n_b7_110
      replace b7_111 := n_b7_111
      clear n_b7_111
      replace O7_13c := (O7_13c.ext Yw7_12).chgN K7 (by omega)
      replace X7 : Ext w3 ((w7_12.setCell ⟨w7_1.heap.size, 0, none⟩ (.slice p0 cells.length c0)).setCell ⟨w7_1.heap.size, 1, none⟩ (.slice (some ⟨g7_15, 0, none⟩) es.length r7_16)) := (Ext.setCell (p := ⟨w7_1.heap.size, 1, none⟩) (Ext.setCell (p := ⟨w7_1.heap.size, 0, none⟩) X7 (by dsimp only; omega) _) (by dsimp only; omega) _)
      clear zz K7
      have S_st : w7_12.heap.size ≤ ((w7_12.setCell ⟨w7_1.heap.size, 0, none⟩ (.slice p0 cells.length c0)).setCell ⟨w7_1.heap.size, 1, none⟩ (.slice (some ⟨g7_15, 0, none⟩) es.length r7_16)).heap.size := by simp
      refine hK.out _ (((w7_12.setCell ⟨w7_1.heap.size, 0, none⟩ (.slice p0 cells.length c0)).setCell ⟨w7_1.heap.size, 1, none⟩ (.slice (some ⟨g7_15, 0, none⟩) es.length r7_16))) ⟨(show Ext w3 (((w7_12.setCell ⟨w7_1.heap.size, 0, none⟩ (.slice p0 cells.length c0)).setCell ⟨w7_1.heap.size, 1, none⟩ (.slice (some ⟨g7_15, 0, none⟩) es.length r7_16))) from qXt).cell b20, (show Ext w3 (((w7_12.setCell ⟨w7_1.heap.size, 0, none⟩ (.slice p0 cells.length c0)).setCell ⟨w7_1.heap.size, 1, none⟩ (.slice (some ⟨g7_15, 0, none⟩) es.length r7_16))) from qXt).cell b21⟩ (fun hHeld => ?_)
      clear hK K
      try simp only [Act.put, qa, qb, qc, qD, qE, qF]
      refine wpAnyH_done qKr ?_ _
      clear hHeld
      have zz := X7.size
      go_step
      go_step
      go_meet
      case rel => exact ⟨g7_15, r7_16, w7_1.heap.size, rfl, X7, (by omega), (by omega), (by omega), (by omega), (by omega), (O7_13c).lower (by omega), b7_110, f_b7_110, b7_111, f_b7_111⟩
    ·
     try simp only [Act.put, qa, qb, qc, qD, qE, qF]
     go_simp
     refine hK.out _ (w3.drew.alloc (.cells #[.slice none 0 0, .slice none 0 0] 26)) ⟨(show Ext w3 (w3.drew.alloc (.cells #[.slice none 0 0, .slice none 0 0] 26)) from qXt).cell b20, (show Ext w3 (w3.drew.alloc (.cells #[.slice none 0 0, .slice none 0 0] 26)) from qXt).cell b21⟩ (fun hHeld => ?_)
     clear hK K
     try simp only [Act.put, qa, qb, qc, qD, qE, qF]
     generalize hW4 : w3.drew.alloc (.cells #[.slice none 0 0, .slice none 0 0] 26) = w7_17 at *
     have S_w7_17 : w3.heap.size < w7_17.heap.size := by subst hW4; simp
     have hx7 : Ext w3 w7_17 := by subst hW4; exact qXt
     replace X7 := X7.trans hx7
     clear hx7
     have b7_180 : w7_17.cell? ⟨w3.heap.size, 0, none⟩ = some (.slice none 0 0) := by subst hW4; exact qCl
     have f_b7_180 : w7_17.frozen? ⟨w3.heap.size, 0, none⟩ = false := by subst hW4; exact qFz
     have b7_181 : w7_17.cell? ⟨w3.heap.size, 1, none⟩ = some (.slice none 0 0) := by subst hW4; exact qCl
     have f_b7_181 : w7_17.frozen? ⟨w3.heap.size, 1, none⟩ = false := by subst hW4; exact qFz
     have z_b7_18 : w3.heap.size < w7_17.heap.size := by subst hW4; exact S_w7_17
     have Yw7_17 := Ext.refl w7_17
     clear hW4
     refine qHr 2 rfl (fun K hK => ?_)
     try simp only [Act.put, qa, qb, qc, qD, qE, qF]
     go_simp
     refine hK.out _ (w7_17.alloc (.cells #[] TEXPORT)) ⟨(show Ext w3 (w7_17.alloc (.cells #[] TEXPORT)) from qXt).cell b20, (show Ext w3 (w7_17.alloc (.cells #[] TEXPORT)) from qXt).cell b21⟩ (fun hHeld => ?_)
     clear hK K
     try simp only [Act.put, qa, qb, qc, qD, qE, qF]
     generalize hW5 : w7_17.alloc (.cells #[] TEXPORT) = w7_19 at *
     have S_w7_19 : w7_17.heap.size < w7_19.heap.size := by subst hW5; simp
     have hx7 : Ext w7_17 w7_19 := by subst hW5; exact qXt
     replace Yw7_17 := Yw7_17.trans hx7
     replace X7 := X7.trans hx7
     clear hx7
     have O7_20 : OwnC w7_19 w3.heap.size TEXPORT 5 (.slice (some ⟨w7_17.heap.size, 0, none⟩) 0 0) [] := by subst hW5; exact OwnC.lit0 _ _ _ _ (by first | exact Nat.le_refl _ | omega | (simp; omega))
     have Yw7_19 := Ext.refl w7_19
     clear hW5
     refine qHr 5 rfl (fun K hK => ?_)
     refine step_app0R Try.underlying24 infoExp rfl (by decide) rfl (.tmp 28) (.tmp 30) rfl rfl rfl (O7_20.ext Yw7_19).1 (by omega) (hSr.out.ext (show Ext w3 w7_19 from qXt)) (by omega) (by omega) ?_
     intro g7_24 r7_25 w7_21 O7_22 x7_23 Eg7_24 Hg7_24
     have O7_22c : OwnC w7_21 w3.heap.size TEXPORT 5 (.slice (some ⟨g7_24, 0, none⟩) es.length r7_25) (cellsE es R) := ⟨by rw [cellsE_len]; exact O7_22, cellsE_all _ _⟩
     clear O7_22
     have S_w7_21 : w7_19.heap.size ≤ w7_21.heap.size := x7_23.size
     replace Yw7_17 := Yw7_17.trans x7_23
     replace Yw7_19 := Yw7_19.trans x7_23
     replace X7 := X7.trans x7_23
     have Yw7_21 := Ext.refl w7_21
     clear x7_23
     refine hK.out _ w7_21 ⟨(show Ext w3 w7_21 from qXt).cell b20, (show Ext w3 w7_21 from qXt).cell b21⟩ (fun hHeld => ?_)
     clear hK K
     try simp only [Act.put, qa, qb, qc, qD, qE, qF]
     refine qHk (v := ?_) 6 rfl (.inl ⟨by rfl, ?_⟩) ?_
     rotate_left
     ·
      (intro w hSw; (try dsimp only at hSw); go_simp; try with_reducible rfl)
     try simp only [Act.put, qa, qb, qc, qD, qE, qF]
     refine qHr 8 rfl (fun K hK => ?_)
     try simp only [Act.put, qa, qb, qc, qD, qE, qF]
     replace b7_180 := Yw7_17.cell b7_180
     replace b7_181 := Yw7_17.cell b7_181
     replace f_b7_180 := Yw7_17.frz z_b7_18 f_b7_180
     replace f_b7_181 := Yw7_17.frz z_b7_18 f_b7_181
     go_simp
     have zz := X7.size
     have K7 : Chg w3.heap.size (w3.heap.size + 1) w7_21 ((w7_21.setCell ⟨w3.heap.size, 0, none⟩ (.slice p0 cells.length c0)).setCell ⟨w3.heap.size, 1, none⟩ (.slice (some ⟨g7_24, 0, none⟩) es.length r7_25)) := (Chg.setCell (p := ⟨w3.heap.size, 1, none⟩) (Chg.setCell (p := ⟨w3.heap.size, 0, none⟩) (Chg.refl w3.heap.size (w3.heap.size + 1) w7_21) (Nat.le_refl _) (Nat.lt_succ_self _) _) (Nat.le_refl _) (Nat.lt_succ_self _) _)
     have n_b7_180 : ((w7_21.setCell ⟨w3.heap.size, 0, none⟩ (.slice p0 cells.length c0)).setCell ⟨w3.heap.size, 1, none⟩ (.slice (some ⟨g7_24, 0, none⟩) es.length r7_25)).cell? ⟨w3.heap.size, 0, none⟩ = some (.slice p0 cells.length c0) := by go_simp
     replace f_b7_180 : ((w7_21.setCell ⟨w3.heap.size, 0, none⟩ (.slice p0 cells.length c0)).setCell ⟨w3.heap.size, 1, none⟩ (.slice (some ⟨g7_24, 0, none⟩) es.length r7_25)).frozen? ⟨w3.heap.size, 0, none⟩ = false := by go_simp
     have n_b7_181 : ((w7_21.setCell ⟨w3.heap.size, 0, none⟩ (.slice p0 cells.length c0)).setCell ⟨w3.heap.size, 1, none⟩ (.slice (some ⟨g7_24, 0, none⟩) es.length r7_25)).cell? ⟨w3.heap.size, 1, none⟩ = some (.slice (some ⟨g7_24, 0, none⟩) es.length r7_25) := by go_simp
     replace f_b7_181 : ((w7_21.setCell ⟨w3.heap.size, 0, none⟩ (.slice p0 cells.length c0)).setCell ⟨w3.heap.size, 1, none⟩ (.slice (some ⟨g7_24, 0, none⟩) es.length r7_25)).frozen? ⟨w3.heap.size, 1, none⟩ = false := by go_simp
     replace b7_180 := n_b7_180
     clear n_b7_180
     replace b7_181 := n_b7_181
     clear n_b7_181
     replace O7_22c := (O7_22c.ext Yw7_21).chgN K7 (by omega)
     replace X7 : Ext w3 ((w7_21.setCell ⟨w3.heap.size, 0, none⟩ (.slice p0 cells.length c0)).setCell ⟨w3.heap.size, 1, none⟩ (.slice (some ⟨g7_24, 0, none⟩) es.length r7_25)) := (Ext.setCell (p := ⟨w3.heap.size, 1, none⟩) (Ext.setCell (p := ⟨w3.heap.size, 0, none⟩) X7 (by dsimp only; omega) _) (by dsimp only; omega) _)
     clear zz K7
     have S_st : w7_21.heap.size ≤ ((w7_21.setCell ⟨w3.heap.size, 0, none⟩ (.slice p0 cells.length c0)).setCell ⟨w3.heap.size, 1, none⟩ (.slice (some ⟨g7_24, 0, none⟩) es.length r7_25)).heap.size := by simp
     refine hK.out _ (((w7_21.setCell ⟨w3.heap.size, 0, none⟩ (.slice p0 cells.length c0)).setCell ⟨w3.heap.size, 1, none⟩ (.slice (some ⟨g7_24, 0, none⟩) es.length r7_25))) ⟨(show Ext w3 (((w7_21.setCell ⟨w3.heap.size, 0, none⟩ (.slice p0 cells.length c0)).setCell ⟨w3.heap.size, 1, none⟩ (.slice (some ⟨g7_24, 0, none⟩) es.length r7_25))) from qXt).cell b20, (show Ext w3 (((w7_21.setCell ⟨w3.heap.size, 0, none⟩ (.slice p0 cells.length c0)).setCell ⟨w3.heap.size, 1, none⟩ (.slice (some ⟨g7_24, 0, none⟩) es.length r7_25))) from qXt).cell b21⟩ (fun hHeld => ?_)
     clear hK K
     try simp only [Act.put, qa, qb, qc, qD, qE, qF]
     refine wpAnyH_done qKr ?_ _
     clear hHeld
     have zz := X7.size
     go_step
     go_step
     go_meet
     case rel => exact ⟨g7_24, r7_25, w3.heap.size, rfl, X7, (by omega), (by omega), (by omega), (by omega), (by omega), (O7_22c).lower (by omega), b7_180, f_b7_180, b7_181, f_b7_181⟩
   case rest =>
    generalize wc = wc6 at hcut ⊢
    obtain ⟨g8, r9, g10, rfl, xx7, Gg8, Hg8, Gg10, Hg10, Dg8g10, O11, b120, f_b120, b121, f_b121⟩ := hcut
    have Lwc6 : Ext w3 wc6 := Ext.trans qXt xx7
    have Xwc6 : Ext w wc6 := Xw3.trans Lwc6
    replace b20 := Lwc6.cell b20
    replace b21 := Lwc6.cell b21
    have z_b2 : w1.heap.size < wc6.heap.size := qB b20
    replace i1 := i1.ext Lwc6
    replace i2 := i2.ext Lwc6
    have s_wc6 : w.heap.size ≤ wc6.heap.size := Xwc6.size
    have BL5_wc6 : Ext w3 wc6 := BL5.trans Lwc6
    clear xx7
    have z_b12 : g10 < wc6.heap.size := qB b120
    go_wp2_with fail
    go_loopw [6] (fun i wr => ∃ (m : Nat), m ≤ es.length ∧ i = .int .i64 m ∧ OwnC wr (w3.heap.size) TEXPORT 5 (.slice (some ⟨g8, 0, none⟩) es.length r9) (cellsE (headE es m) R) ∧ Chg g8 (g8 + 1) wc6 wr ∧ Ext w3 wr) (fun i _ => es.length - (intOf i).toNat)
    case atStart => exact ⟨0, Nat.zero_le _, rfl, (by rw [headE_zero]; exact (O11.ext qXt)), Chg.refl _ _ _, BL5_wc6⟩
    case round =>
     obtain ⟨m, hm, rfl, O11n, K7, E7⟩ := hrel
     have Xwr : Ext w wr := Xw3.trans E7
     have s_wr : w.heap.size ≤ wr.heap.size := Xwr.size
     have t_wr : wc6.heap.size ≤ wr.heap.size := K7.size
     have u_wr : w3.heap.size ≤ wr.heap.size := E7.size
     replace b20 := E7.cell Q4_b20.out
     replace b21 := E7.cell Q4_b21.out
     replace b120 := K7.cell (by omega) b120
     replace f_b120 := K7.frzO (by omega) (by omega) f_b120
     replace b121 := K7.cell (by omega) b121
     replace f_b121 := K7.frzO (by omega) (by omega) f_b121
     have z_b2 : w1.heap.size < wr.heap.size := qB b20
     have z_b12 : g10 < wr.heap.size := qB b120
     replace i1 := (Q4_i1.out).ext E7
     replace i2 := (Q4_i2.out).ext E7
     clear O11
     have O11 := O11n
     clear O11n
     have O11_BX : Ext w3 w3 := Ext.refl _
     by_cases hlt : m < es.length
     ·
      have hmI : (m : Int) < (es.length : Int) := by omega
      obtain ⟨A7a, A7b⟩ := OwnC.at5 O11 (headE_len es m).symm m (by rw [headE_len]; exact hlt)
      have S7 := OwnC.shut O11 (headE_len es m).symm m (by rw [headE_len]; exact hlt)
      rw [headE_step es m hlt] at S7
      replace S7 := Lib.hid S7
      replace O11 := Lib.hid O11
      go_wp2_with fail
      generalize hW6 : (wr.setCell ⟨g8, m * 5 + 4, none⟩ (.bool false)) = w4 at *
      have Kw4 : Chg (g8) (g8 + 1) wr w4 := by subst hW6; exact qCh
      have Xw4 : Ext w w4 := by subst hW6; exact qXt
      have BL5_w4 : Ext w3 w4 := by subst hW6; exact qXt
      have K7_w4 : Chg g8 (g8 + 1) wc6 w4 := Chg.trans K7 Kw4
      replace b20 := BL5_w4.cell Q4_b20.out
      replace b21 := BL5_w4.cell Q4_b21.out
      replace b120 := Kw4.cell (by omega) b120
      replace f_b120 := Kw4.frzO (by omega) z_b12 f_b120
      replace b121 := Kw4.cell (by omega) b121
      replace f_b121 := Kw4.frzO (by omega) z_b12 f_b121
      replace i1 := (Q4_i1.out).ext BL5_w4
      replace i2 := (Q4_i2.out).ext BL5_w4
      clear Kw4
      have z_b2 : w1.heap.size < w4.heap.size := qB b20
      have z_b12 : g10 < w4.heap.size := qB b120
      have s_w4 : w.heap.size ≤ w4.heap.size := Xw4.size
      clear hW6
      clear O11 A7a A7b
      have O11 := S7.out
      clear S7
      go_wp2_with fail
      go_roundw
      case rel => exact ⟨m + 1, by omega, by go_num, O11, K7_w4.ext qXt, BL5_w4.trans qXt⟩
      case measure => simp [intOf]; omega
     ·
      obtain rfl : m = es.length := by omega
      have hmI : ¬ (es.length : Int) < (es.length : Int) := by omega
      obtain ⟨fs, hfs⟩ : ∃ fs, shutE es 0 = fs := ⟨_, rfl⟩
      have hfl : fs.length = es.length := by rw [← hfs, shutE_len]
      have i7 : Exps wr 0 (.slice (some ⟨g8, 0, none⟩) es.length r9) fs := by
       have h7 := O11
       rw [headE_all, hfs] at h7
       rw [show (.slice (some ⟨g8, 0, none⟩) es.length r9 : Value) = .slice (some ⟨g8, 0, none⟩) fs.length r9 by rw [hfl]] at h7 ⊢
       exact expsC h7 (fun p hp => by rw [← hfs, ← headE_all, headE_row es _ p (by omega)]; exact (hNr.out p (by omega)).ext (Ext.trans (O11_BX) E7)) (by omega)
      clear O11
      replace hfl := Lib.hid hfl
      obtain ⟨hv7, hb7, ho7⟩ := shut_law hB3.out hfs
      replace hv7 := Lib.hid hv7
      replace hb7 := Lib.hid hb7
      replace ho7 := Lib.hid ho7
      clear hfs
      go_wp2_with fail
      refine (implValidBuffer_c cells fs (.slice p0 cells.length c0) (.slice (some ⟨g8, 0, none⟩) es.length r9) _ _ _ (i1.ext qXt) (i7.ext qXt)).mono ?_
      rintro e w4 ⟨rfl, xw4⟩
      have Lw4 : Ext wr w4 := Ext.trans qXt xw4
      have Xw4 : Ext w w4 := Xwr.trans Lw4
      replace b20 := Lw4.cell b20
      replace b21 := Lw4.cell b21
      replace b120 := Lw4.cell b120
      replace b121 := Lw4.cell b121
      replace f_b120 := Lw4.frz z_b12 f_b120
      replace f_b121 := Lw4.frz z_b12 f_b121
      have z_b2 : w1.heap.size < w4.heap.size := qB b20
      have z_b12 : g10 < w4.heap.size := qB b120
      replace i1 := i1.ext Lw4
      replace i2 := i2.ext Lw4
      replace i7 := i7.ext Lw4
      have s_w4 : w.heap.size ≤ w4.heap.size := Xw4.size
      have BL5_w4 : Ext w3 w4 := E7.trans Lw4
      have K7_w4 : Chg g8 (g8 + 1) wc6 w4 := Chg.ext K7 Lw4
      clear xw4
      rw [hv7.out]
      go_wp2_with fail
      refine (implValidBuffer_c cells ([]) (.slice p0 cells.length c0) (.slice none 0 0) _ _ _ (i1.ext qXt) (Exps.nil _ 0)).mono ?_
      rintro e w5 ⟨rfl, xw5⟩
      have Lw5 : Ext w4 w5 := Ext.trans qXt xw5
      have Xw5 : Ext w w5 := Xw4.trans Lw5
      replace b20 := Lw5.cell b20
      replace b21 := Lw5.cell b21
      replace b120 := Lw5.cell b120
      replace b121 := Lw5.cell b121
      replace f_b120 := Lw5.frz z_b12 f_b120
      replace f_b121 := Lw5.frz z_b12 f_b121
      have z_b2 : w1.heap.size < w5.heap.size := qB b20
      have z_b12 : g10 < w5.heap.size := qB b120
      replace i1 := i1.ext Lw5
      replace i2 := i2.ext Lw5
      replace i7 := i7.ext Lw5
      have s_w5 : w.heap.size ≤ w5.heap.size := Xw5.size
      have BL5_w5 : Ext w3 w5 := BL5_w4.trans Lw5
      have K7_w5 : Chg g8 (g8 + 1) wc6 w5 := Chg.ext K7_w4 Lw5
      clear xw5
      rw [hb7.out]
      go_wp2_with fail
      refine (implOpenOf_c cells fs (.slice p0 cells.length c0) (.slice (some ⟨g8, 0, none⟩) es.length r9) _ _ _ (i1.ext qXt) (i7.ext qXt)).mono ?_
      rintro e w6 ⟨fv13, rfl, i14, -, xw6⟩
      have Lw6 : Ext w5 w6 := Ext.trans qXt xw6
      have Xw6 : Ext w w6 := Xw5.trans Lw6
      replace b20 := Lw6.cell b20
      replace b21 := Lw6.cell b21
      replace b120 := Lw6.cell b120
      replace b121 := Lw6.cell b121
      replace f_b120 := Lw6.frz z_b12 f_b120
      replace f_b121 := Lw6.frz z_b12 f_b121
      have z_b2 : w1.heap.size < w6.heap.size := qB b20
      have z_b12 : g10 < w6.heap.size := qB b120
      replace i1 := i1.ext Lw6
      replace i2 := i2.ext Lw6
      replace i7 := i7.ext Lw6
      have s_w6 : w.heap.size ≤ w6.heap.size := Xw6.size
      have BL5_w6 : Ext w3 w6 := BL5_w5.trans Lw6
      have K7_w6 : Chg g8 (g8 + 1) wc6 w6 := Chg.ext K7_w5 Lw6
      clear xw6
      obtain ⟨afv13, cfv13, rfl⟩ := i14.form
      have hq15e : (((openA cells fs).length : Int) == (0 : Int)) = true := by have h7 : ((openA cells fs).length : Int) = (0 : Int) := (by rw [ho7.out]; rfl); simpa using h7
      have hq15n : (((openA cells fs).length : Int) != (0 : Int)) = false := by have h7 : ((openA cells fs).length : Int) = (0 : Int) := (by rw [ho7.out]; rfl); simpa using h7
      go_wp2_with fail
      go_ret
      exact ⟨rfl, (Xw6.trans qXt)⟩


end Go.Proofs.Ytgklaobfikbiiaa

/- The law FnValidBuffer holds for all bytes: the call returns true, and its argument reads as it did. No condition. -/
namespace Go.Proofs.Ytgklaobfikbiiaa.rowFnValidBuffer
open Go.ChangeShapes Go.WideShapes Go.ChangeAt Go.RowKit
set_option linter.unusedVariables false

set_option maxHeartbeats 1000000 in
set_option maxRecDepth 100000 in
theorem lifted (os : Os) (started : os.Started) (H : Type) (enc : TypeId × Value → H) :
    ReturnsInHanded {} Try.checked os 3 .any (Rows.fnValidBufferSpec.pre6 enc Try.prog Try.f3 Rows.fnValidBufferRow.domain false) (Rows.fnValidBufferSpec.post enc Try.prog Try.f3 false true false false) := by
  refine returnsInHanded_of_change (C := Try.checked) own started qKr Try.func3
    (ChangeSpec.witness6 (enc := enc) (C := Try.checked) false ⟨#[], #[.slice none 0 0], []⟩ 8 qKr qKr qKr qKr) ?_
  intro W base args ds gs before hval0 hW hcnd _
  have hval : ∀ (j : Nat) t v, Try.f3.params[j]? = some t → args[j]? = some v → Value.okWide Try.prog W .any base t v := hval0
  have hW' := hW
  obtain ⟨p, q, hA0, hV, rfl, hfz, hnd⟩ := hW
  have hA : DataW.TrodAll enc Try.prog W 0 (fun _ => true) true Try.f3.params.toList args.toList ds p := hA0
  rw [Try.params3] at hA hval
  obtain ⟨v0, vs0, d0, ds0, p0, q0, hargs0, rfl, rfl, h0, r0⟩ := trodAll_cons hA
  obtain ⟨rfl, rfl, rfl⟩ := trodAll_nil r0
  obtain rfl : args = #[v0] := by cases args; simp_all
  obtain ⟨rfl, rfl⟩ := trodVars_none hV
  obtain ⟨a0, len0, cap0, rfl⟩ := okWide_slice Try.underlying22 (hval 0 22 v0 rfl rfl)
  have k0 := h0
  have lt0 : ∀ x ∈ p0, x.block < W.heap.size := by obtain ⟨m, hm⟩ := k0; exact DataW.trod_lt m _ _ _ hm
  have w0 : BysIn W a0 len0 cap0 := by
    obtain ⟨fuel, hf⟩ := h0
    rcases open_ints Try.underlying22 Try.underlying5 qKr hf with ⟨hcs, _⟩ | ⟨x, l, c, zs, hcs, _, hl, hm, hz, _, hcell, hwz⟩
    · simp [Value.cells] at hcs
      obtain ⟨rfl, rfl, rfl⟩ := hcs
      exact ⟨Nat.le_refl _, by simp, fun i hi => absurd hi (by simp)⟩
    · simp [Value.cells] at hcs
      obtain ⟨rfl, rfl, rfl⟩ := hcs
      have hzl : zs.length = cap0 := by simpa using hz
      exact bys_of_cells hl hm hzl hcell hwz
  clear hA0 hval0
  refine (lawFnValidBuffer_c a0 len0 cap0 W w0).mono fun e W' ⟨he, bel⟩ => ?_
  subst he
  exact ⟨_, rfl, _, _, _, [], _, [], hW', trodAll_mk1 (shut_bool Try.underlying4 _), (trodAll_cons_mk (Below.trod laidOut qKr (of_decide_eq_true qKr) k0 bel lt0) trodAll_mk0), rfl, Below.frame bel _, fun h => by cases h⟩

set_option maxHeartbeats 2000000 in
theorem closed : joinedFacts Try.checked.prog 3 Try.f3 Rows.fnValidBufferSpec Rows.fnValidBufferRow = true :=
  facts.all qKr qKr qKr qKr qKr (by as_aux_lemma => kernel_rfl) (by as_aux_lemma => kernel_rfl) (by as_aux_lemma => kernel_rfl) (by as_aux_lemma => kernel_rfl)
    (by as_aux_lemma => kernel_rfl) (by as_aux_lemma => kernel_rfl) rfl rfl rfl rfl qKr qKr (by as_aux_lemma => kernel_rfl) (by as_aux_lemma => kernel_rfl)

theorem named : Try.pinned.checked.prog.funcNamed Rows.fnValidBufferRow.func = some 3 := by kernel_rfl

theorem over : Rows.fnValidBufferRow.holds Try.pinned (OpenSpec.ofChange Rows.fnValidBufferSpec) :=
  OpenClaim.holds_of_wide 3 Try.f3 rfl rfl rfl rfl rfl rfl rfl ⟨rfl, rfl, rfl, rfl, rfl⟩ rfl rfl rfl rfl rfl named Try.func3 closed
    (of_decide_eq_true qKr) (by unfold Func.isWrapper; exact ⟨rfl, rfl⟩)
    (fun os started H enc _ => lifted os started H enc)

theorem proved : Rows.FnValidBufferSaid := over

end Go.Proofs.Ytgklaobfikbiiaa.rowFnValidBuffer
