/- A region that draws its order, shown once for every order: each operation is shown at whatever world may stand when it comes up, from what those told that it waits for; what each tells must last. No condition. -/
import Derived.StillTail
namespace Go.Proofs.Ytjpngmdfnglabaa.RG
open Go
set_option linter.unusedVariables false
section
variable {P : Program} {ops : Array Oper} {md : Region.Mode}

def dst (ops : Array Oper) (i : Nat) : Option Tmp := (ops[i]?).bind (·.dst)
/-- the operations that i waits for -/
def direct (md : Region.Mode) (ops : Array Oper) (i : Nat) : List Nat := match ops[i]? with | some o => (o.after.toList.filter (Region.binds md)).map (·.on) | none => []
def addTo (l : List Nat) : List Nat → List Nat
  | [] => l
  | x :: r => addTo (if l.contains x then l else l ++ [x]) r
/-- all that i waits for, through others too -/
def closures (md : Region.Mode) (ops : Array Oper) : Nat → List (List Nat)
  | 0 => []
  | n + 1 => let c := closures md ops n; c ++ [(direct md ops n).foldl (fun l d => addTo (addTo l [d]) (c.getD d [])) []]
def owner (ops : Array Oper) (n : Nat) (t : Tmp) : Option Nat := (List.range n).find? fun j => dst ops j == some t

/-- the operations from n on come up in their own order, behind all others -/
def tailB (md : Region.Mode) (ops : Array Oper) (n : Nat) : Bool :=
  decide (n < ops.size) && Region.sinkB md ops n && Region.chainB md ops n && Region.seqB md ops (ops.size - n) n ((List.range ops.size).map fun i => decide (i < n)).toArray
def okB (md : Region.Mode) (ops : Array Oper) (n : Nat) (C : List (List Nat)) : Bool :=
  Region.noSelect ops && decide (n ≤ ops.size) && ((List.range ops.size).all fun i => (direct md ops i).all fun d => decide (d < i)) &&
  ((List.range n).all fun i => (match dst ops i with | some t => owner ops n t == some i | none => true) &&
    ((C.getD i []).all fun j => decide (j < i) && ((direct md ops i).contains j || (direct md ops i).any fun d => (C.getD d []).contains j)) &&
    (match ops[i]? with | some o => (o.looksAt ops).all fun t => (match owner ops n t with | some j => (C.getD i []).contains j | none => true) | none => true))

def putAll (ops : Array Oper) (v : Nat → Value) : List Nat → Act → Act
  | [], a => a
  | i :: r, a => putAll ops v r (a.put (dst ops i) (v i))

theorem owner_some {n : Nat} {t : Tmp} {j : Nat} (h : owner ops n t = some j) : j < n ∧ dst ops j = some t := by
  have h1 := List.mem_of_find?_eq_some h
  have h2 := List.find?_some h
  exact ⟨List.mem_range.1 h1, by simpa using h2⟩

/-- where the frame stands when the listed ones have come up -/
structure At (ops : Array Oper) (n : Nat) (listed : Array Bool) (v : Nat → Value) (a0 a : Act) : Prop where
  defers : a.defers = a0.defers
  size : a.tmps.size = a0.tmps.size
  get : ∀ t, a.tmps[t]? = match owner ops n t with | some j => if listed.getD j false = true then (a0.tmps[t]?).map (fun _ => v j) else a0.tmps[t]? | none => a0.tmps[t]?

theorem put_defers (a : Act) (d : Option Tmp) (v : Value) : (a.put d v).defers = a.defers := by cases d <;> rfl
theorem put_size (a : Act) (d : Option Tmp) (v : Value) : (a.put d v).tmps.size = a.tmps.size := by cases d <;> simp [Act.put]
theorem put_get (a : Act) (d : Option Tmp) (v : Value) (t : Tmp) : (a.put d v).tmps[t]? = if d = some t then (a.tmps[t]?).map (fun _ => v) else a.tmps[t]? := by
  cases d with
  | none => simp [Act.put]
  | some e =>
    simp only [Act.put, Array.getElem?_setIfInBounds, Option.some.injEq]
    by_cases he : e = t
    · subst he
      rw [if_pos rfl, if_pos rfl]
      by_cases hl : e < a.tmps.size
      · rw [if_pos hl]; simp [hl]
      · rw [if_neg hl]; simp [Array.getElem?_eq_none (Nat.le_of_not_lt hl)]
    · rw [if_neg he, if_neg he]
theorem putAll_defers (v : Nat → Value) : ∀ (l : List Nat) (a : Act), (putAll ops v l a).defers = a.defers
  | [], _ => rfl
  | i :: r, a => by rw [putAll, putAll_defers v r, put_defers]
theorem putAll_size (v : Nat → Value) : ∀ (l : List Nat) (a : Act), (putAll ops v l a).tmps.size = a.tmps.size
  | [], _ => rfl
  | i :: r, a => by rw [putAll, putAll_size v r, put_size]
theorem putAll_get {n : Nat} (hd : ∀ i, i < n → ∀ t, dst ops i = some t → owner ops n t = some i) (v : Nat → Value) : ∀ (l : List Nat) (a : Act), (∀ i ∈ l, i < n) → ∀ t,
    (putAll ops v l a).tmps[t]? = match owner ops n t with | some j => if j ∈ l then (a.tmps[t]?).map (fun _ => v j) else a.tmps[t]? | none => a.tmps[t]?
  | [], a, _, t => by cases owner ops n t <;> simp [putAll]
  | i :: r, a, hl, t => by
    rw [putAll, putAll_get hd v r _ (fun j hj => hl j (List.mem_cons_of_mem _ hj)) t, put_get]
    have hi := hl i (List.mem_cons_self ..)
    cases ho : owner ops n t with
    | none =>
      simp only
      rw [if_neg]
      intro h
      rw [hd i hi t h] at ho; cases ho
    | some j =>
      obtain ⟨hj, hjd⟩ := owner_some ho
      simp only
      by_cases hij : i = j
      · subst hij
        rw [if_pos hjd, if_pos (List.mem_cons_self ..)]
        split <;> simp [Option.map_map, Function.comp_def]
      · have : dst ops i ≠ some t := fun h => hij (by have := hd i hi t h; rw [ho] at this; cases this; rfl)
        rw [if_neg this]
        by_cases hm : j ∈ r
        · rw [if_pos hm, if_pos (List.mem_cons_of_mem _ hm)]
        · rw [if_neg hm, if_neg (by simp [hm]; exact fun h => hij h.symm)]

theorem act_ext {a b : Act} (h1 : a.defers = b.defers) (h2 : ∀ t : Nat, a.tmps[t]? = b.tmps[t]?) : a = b := by
  obtain ⟨ta, da⟩ := a
  obtain ⟨tb, db⟩ := b
  have : ta = tb := Array.ext_getElem? h2
  subst this
  simp only at h1
  subst h1; rfl

def upd (v : Nat → Value) (i : Nat) (x : Value) : Nat → Value := fun j => if j = i then x else v j
theorem upd_self (v : Nat → Value) (i : Nat) (x : Value) : upd v i x i = x := by simp [upd]
theorem upd_ne (v : Nat → Value) {i j : Nat} (x : Value) (h : j ≠ i) : upd v i x j = v j := by simp [upd, h]

theorem put_same {a b : Act} {d : Option Tmp} {u x : Value} (hs : a.tmps.size = b.tmps.size) (h : a.put d u = a.put d x) : b.put d u = b.put d x := by
  refine act_ext (by rw [put_defers, put_defers]) fun t => ?_
  have h1 := congrArg (fun c : Act => c.tmps[t]?) h
  simp only [put_get] at h1 ⊢
  by_cases hd : d = some t
  · rw [if_pos hd, if_pos hd] at *
    by_cases hl : t < a.tmps.size
    · have hl' : t < b.tmps.size := by omega
      simp [hl] at h1
      simp [hl', h1]
    · have hl' : ¬ t < b.tmps.size := by omega
      simp [Array.getElem?_eq_none (Nat.le_of_not_lt hl')]
  · rw [if_neg hd, if_neg hd]

/-- an operation in a frame that differs only in what it does not look at -/
theorem wp_move {o : Oper} {a b : Act} {w : World} {R : Value → World → Prop} {Q : Exit → Act → World → Prop} (he : execOp b.eval o = execOp a.eval o) (hs : a.tmps.size = b.tmps.size)
    (h : o.wp P a w (fun a' w' => ∃ x, a' = a.put o.dst x ∧ R x w') (fun _ _ _ => False)) : o.wp P b w (fun b' w' => ∃ x, b' = b.put o.dst x ∧ R x w') Q := by
  unfold Oper.wp at *
  rw [he]
  generalize (execOp a.eval o).run P w = r at *
  cases r with
  | ok m w' =>
    cases m <;> simp only [Oper.upon] at h ⊢
    case value u => obtain ⟨x, hx, hr⟩ := h; exact ⟨x, put_same hs hx, hr⟩
    case skip => obtain ⟨x, hx, hr⟩ := h; exact ⟨x, put_same hs hx, hr⟩
    case defer d =>
      obtain ⟨x, hx, hr⟩ := h
      have := congrArg (fun c : Act => c.defers.length) hx
      simp only [put_defers] at this
      simp at this
    case enter f args =>
      refine Calls.mono h fun e w'' he => ?_
      cases e with
      | returned u => obtain ⟨x, hx, hr⟩ := he; exact ⟨x, put_same hs hx, hr⟩
      | panicked c => exact (he : False).elim
      | outgrown => exact absurd he (by unfold LetsOut; simp)
    case row row args => exact Rows.mono h fun u w'' he => by obtain ⟨x, hx, hr⟩ := he; exact ⟨x, put_same hs hx, hr⟩
  | halt x w' => cases x <;> simp only [Oper.upon] at h

theorem eval_same {a b : Act} {o : Oper} (h : ∀ t ∈ o.looksAt ops, a.tmps[t]? = b.tmps[t]?) (hs : ∀ cs q, o.op ≠ .select cs q) : execOp a.eval o = execOp b.eval o := by
  refine execOp_congr o hs fun x hx => ?_
  cases x with
  | tmp t =>
    have ht := h t (List.mem_append_left _ (List.mem_filterMap.2 ⟨.tmp t, by simpa using hx, rfl⟩))
    show a.tmps.getD t undef = b.tmps.getD t undef
    rw [Array.getD_eq_getD_getElem?, Array.getD_eq_getD_getElem?, ht]
  | const u => rfl
  | global g => rfl
  | func f => rfl
theorem wanted_same {a b : Act} {o : Oper} (h : ∀ t ∈ o.looksAt ops, a.tmps[t]? = b.tmps[t]?) : Region.wanted o (yielded ops a.tmps) = Region.wanted o (yielded ops b.tmps) := by
  unfold Region.wanted
  cases hg : o.guard with
  | none => rfl
  | some gw =>
    obtain ⟨g, want⟩ := gw
    have hy : yielded ops a.tmps g = yielded ops b.tmps g := by
      unfold yielded
      cases ht : (ops[g]?).bind (·.dst) with
      | none => rfl
      | some t =>
        have := h t (by simp [Oper.looksAt, hg, ht])
        simp [this]
    simp only [hy]

def cnt (n : Nat) (listed : Array Bool) : Nat := (List.range n).countP fun i => listed.getD i false
theorem cnt_le (n : Nat) (listed : Array Bool) : cnt n listed ≤ n := by
  have := List.countP_le_length (p := fun i => listed.getD i false) (l := List.range n)
  simpa [cnt] using this
theorem cnt_succ (n : Nat) (listed : Array Bool) : cnt (n+1) listed = cnt n listed + if listed.getD n false = true then 1 else 0 := by
  unfold cnt
  rw [List.range_succ, List.countP_append]
  simp [List.countP_cons]
theorem cnt_set (n : Nat) {listed : Array Bool} {i : Nat} (hi : i < listed.size) (hf : listed.getD i false = false) : cnt n (listed.setIfInBounds i true) = cnt n listed + if i < n then 1 else 0 := by
  induction n with
  | zero => rfl
  | succ n ih =>
    rw [cnt_succ, cnt_succ, ih]
    by_cases hin : i = n
    · subst hin
      have e : (listed.setIfInBounds i true).getD i false = true := by simp [hi]
      rw [e, hf]; simp
    · rw [getD_set_ne false hin]
      by_cases h1 : i < n
      · have h2 : i < n + 1 := by omega
        simp only [h1, h2, if_true]; omega
      · have h2 : ¬ i < n + 1 := by omega
        simp only [h1, h2, if_false]; omega
theorem cnt_all {n : Nat} {listed : Array Bool} (h : cnt n listed = n) : ∀ i, i < n → listed.getD i false = true := by
  induction n with
  | zero => intro i hi; omega
  | succ n ih =>
    rw [cnt_succ] at h
    have := cnt_le n listed
    intro i hi
    by_cases hl : listed.getD n false = true
    · rw [if_pos hl] at h
      by_cases hin : i = n
      · subst hin; exact hl
      · exact ih (by omega) i (by omega)
    · rw [if_neg hl] at h; omega
theorem cnt_not {n : Nat} {listed : Array Bool} (h : cnt n listed < n) : ∃ i, i < n ∧ listed.getD i false = false := by
  induction n with
  | zero => omega
  | succ n ih =>
    rw [cnt_succ] at h
    by_cases hl : listed.getD n false = true
    · rw [if_pos hl] at h
      obtain ⟨i, hi, hf⟩ := ih (by omega)
      exact ⟨i, by omega, hf⟩
    · exact ⟨n, by omega, by simpa using hl⟩

/-- what is known while a region comes up -/
structure Inv (ops : Array Oper) (n : Nat) (a0 : Act) (w0 : World) (T : World → World → Prop) (J : Nat → World → Prop) (Pr : Nat → (Nat → Value) → World → Prop) (listed : Array Bool) (v : Nat → Value) (a : Act) (w : World) : Prop where
  at_ : At ops n listed v a0 a
  old : T w0 w
  j : J (cnt n listed) w
  pr : ∀ i, i < n → listed.getD i false = true → Pr i v w

/-- the frame with the temporaries of some operations, told by a list of their places -/
def putAt (ds : List (Option Tmp)) (v : Nat → Value) : List Nat → Act → Act
  | [], a => a
  | i :: r, a => putAt ds v r (a.put (ds.getD i none) (v i))
theorem putAt_eq {ds : List (Option Tmp)} {v : Nat → Value} : ∀ (l : List Nat) (a : Act), (∀ i ∈ l, ds.getD i none = dst ops i) → putAt ds v l a = putAll ops v l a
  | [], _, _ => rfl
  | i :: r, a, h => by rw [putAt, putAll, h i (List.mem_cons_self ..), putAt_eq r _ fun j hj => h j (List.mem_cons_of_mem _ hj)]

/-- what is to be shown of one operation, in the words of the walk -/
def Step (P : Program) (ops : Array Oper) (n : Nat) (C : List (List Nat)) (ds : List (Option Tmp)) (a0 : Act) (w0 : World) (T : World → World → Prop) (J : Nat → World → Prop) (Pr : List ((Nat → Value) → World → Prop)) (i : Nat) (o : Oper) : Prop :=
  ∀ (v : Nat → Value) (w : World) (k : Nat), k < n → T w0 w → J k w → (∀ j ∈ C.getD i [], Pr.getD j (fun _ _ => True) v w) → ∀ K : Act → World → Prop,
    (∀ x w', T w w' → J (k+1) w' → Pr.getD i (fun _ _ => True) (upd v i x) w' → K ((putAt ds v (C.getD i []) a0).put o.dst x) w') →
    match o.guard with
    | none => o.wp P (putAt ds v (C.getD i []) a0) w K (fun _ _ _ => False)
    | some _ => if Region.wanted o (yielded ops (putAt ds v (C.getD i []) a0).tmps) = true then o.wp P (putAt ds v (C.getD i []) a0) w K (fun _ _ _ => False) else K ((putAt ds v (C.getD i []) a0).put o.dst undef) w

/-- what is to be shown of one operation -/
def Prem (P : Program) (ops : Array Oper) (n : Nat) (C : List (List Nat)) (a0 : Act) (w0 : World) (T : World → World → Prop) (J : Nat → World → Prop) (Pr : Nat → (Nat → Value) → World → Prop) (i : Nat) (o : Oper) : Prop :=
  ∀ (v : Nat → Value) (w : World) (k : Nat), k < n → T w0 w → J k w → (∀ j ∈ C.getD i [], Pr j v w) → ∀ K : Act → World → Prop,
    (∀ x w', T w w' → J (k+1) w' → Pr i (upd v i x) w' → K ((putAll ops v (C.getD i []) a0).put o.dst x) w') →
    if Region.wanted o (yielded ops (putAll ops v (C.getD i []) a0).tmps) = true then o.wp P (putAll ops v (C.getD i []) a0) w K (fun _ _ _ => False) else K ((putAll ops v (C.getD i []) a0).put o.dst undef) w

theorem wpAny_rg {n : Nat} {C : List (List Nat)} {a0 : Act} {w0 : World} {T : World → World → Prop} {J : Nat → World → Prop} {Pr : Nat → (Nat → Value) → World → Prop} {Q : Exit → Act → World → Prop} {g : Nat}
    (hok : okB md ops n C = true) (hready : ∀ listed, HeadInv md ops n listed → (∃ i, i < n ∧ listed.getD i false = false) → ∀ t ∈ Region.ready md ops listed, t < n)
    (Trefl : ∀ w, T w w) (Ttr : ∀ a b c, T a b → T b c → T a c)
    (hst : ∀ i, i < n → ∀ v w w', Pr i v w → T w w' → Pr i v w') (hloc : ∀ i, i < n → ∀ v v' w, (∀ q ∈ i :: C.getD i [], v q = v' q) → Pr i v w → Pr i v' w)
    (hop : ∀ i o, i < n → ops[i]? = some o → Prem P ops n C a0 w0 T J Pr i o)
    (hend : ∀ listed, HeadInv md ops n listed → (∀ i, i < n → listed.getD i false = true) → ∀ v w, T w0 w → J n w → (∀ i, i < n → Pr i v w) → wpAny P md ops Q g listed (putAll ops v (List.range n) a0) w) :
    ∀ (f : Nat) (listed : Array Bool) (v : Nat → Value) (a : Act) (w : World), f + cnt n listed = n → HeadInv md ops n listed → Inv ops n a0 w0 T J Pr listed v a w → wpAny P md ops Q (f + g) listed a w := by
  simp only [okB, Bool.and_eq_true, decide_eq_true_eq, List.all_eq_true, List.mem_range] at hok
  obtain ⟨⟨⟨hsel, hnle⟩, hdown⟩, hall⟩ := hok
  have hdist : ∀ i, i < n → ∀ t, dst ops i = some t → owner ops n t = some i := by
    intro i hi t ht
    have := (hall i hi).1.1
    rw [ht] at this; simpa using this
  have hCn : ∀ i, i < n → ∀ j ∈ C.getD i [], j < i := fun i hi j hj => by
    have := (hall i hi).1.2
    try simp only [List.all_eq_true] at this
    have := this j hj
    try simp only [Bool.and_eq_true, decide_eq_true_eq] at this
    exact this.1
  have hCd : ∀ i, i < n → ∀ j ∈ C.getD i [], j ∈ direct md ops i ∨ ∃ d ∈ direct md ops i, j ∈ C.getD d [] := fun i hi j hj => by
    have := (hall i hi).1.2
    try simp only [List.all_eq_true] at this
    have := (this j hj)
    simp only [Bool.or_eq_true, List.any_eq_true, List.contains_iff_mem] at this
    exact this.2
  have hlook : ∀ i o, i < n → ops[i]? = some o → ∀ t ∈ o.looksAt ops, ∀ j, owner ops n t = some j → j ∈ C.getD i [] := fun i o hi ho t ht j hj => by
    have := (hall i hi).2
    rw [ho] at this
    try simp only [List.all_eq_true] at this
    have := this t ht
    rw [hj] at this
    simpa using this
  have hdirect : ∀ i o, ops[i]? = some o → ∀ d, d ∈ direct md ops i ↔ ∃ e ∈ o.after, Region.binds md e = true ∧ e.on = d := fun i o ho d => by
    unfold direct
    rw [ho]
    simp [and_assoc]
  -- what an operation waits for through others has come up too
  have hclosed : ∀ (listed : Array Bool), HeadInv md ops n listed → ∀ m i, i ≤ m → i < n → (∀ d ∈ direct md ops i, listed.getD d false = true) → ∀ j ∈ C.getD i [], listed.getD j false = true := by
    intro listed inv m
    induction m with
    | zero => intro i him hi hd j hj; have := hCn i hi j hj; omega
    | succ m ih =>
      intro i him hi hd j hj
      rcases hCd i hi j hj with h | ⟨d, h1, h2⟩
      · exact hd j h
      · have hdi : d < i := hdown i (by omega) |> fun h => by
          have := h d h1; simpa using this
        have hds : d < ops.size := by omega
        obtain ⟨od, hod⟩ : ∃ od, ops[d]? = some od := ⟨_, Array.getElem?_eq_getElem hds⟩
        refine ih d (by omega) (by omega) (fun q hq => ?_) j h2
        obtain ⟨e, he, hb, rfl⟩ := (hdirect d od hod q).1 hq
        exact inv.closed d od hod (hd d h1) e he hb
  intro f
  induction f with
  | zero =>
    intro listed v a w hf inv I
    have hl := cnt_all (n := n) (listed := listed) (by omega)
    rw [Nat.zero_add]
    have hj := I.j
    rw [show cnt n listed = n by omega] at hj
    have e : a = putAll ops v (List.range n) a0 := by
      refine act_ext (by rw [I.at_.defers, putAll_defers]) fun t => ?_
      rw [I.at_.get, putAll_get hdist v _ _ (fun i hi => List.mem_range.1 hi)]
      cases ho : owner ops n t with
      | none => rfl
      | some j =>
        have hj := (owner_some ho).1
        simp only
        rw [if_pos (hl j hj), if_pos (List.mem_range.2 hj)]
    rw [e]
    exact hend listed inv hl v w I.old hj fun i hi => I.pr i hi (hl i hi)
  | succ f ih =>
    intro listed v a w hf inv I
    have hun := cnt_not (n := n) (listed := listed) (by omega)
    rw [show f + 1 + g = (f + g) + 1 by omega]
    constructor
    · intro h0
      exfalso
      obtain ⟨i, hi, hif⟩ := hun
      have : ∀ m i, i ≤ m → i < n → listed.getD i false = false → ∃ j, j ∈ Region.ready md ops listed := by
        intro m
        induction m with
        | zero =>
          intro i him hi hif
          have his : i < ops.size := by omega
          obtain ⟨o, ho⟩ : ∃ o, ops[i]? = some o := ⟨_, Array.getElem?_eq_getElem his⟩
          refine ⟨i, mem_ready.2 ⟨getD_in (by rw [inv.size]; exact his) hif, o, ho, fun e he hb => ?_⟩⟩
          have := hdown i his e.on ((hdirect i o ho _).2 ⟨e, he, hb, rfl⟩)
          try simp at this
          omega
        | succ m ihm =>
          intro i him hi hif
          have his : i < ops.size := by omega
          obtain ⟨o, ho⟩ : ∃ o, ops[i]? = some o := ⟨_, Array.getElem?_eq_getElem his⟩
          by_cases hd : ∀ e ∈ o.after, Region.binds md e = true → listed.getD e.on false = true
          · exact ⟨i, mem_ready.2 ⟨getD_in (by rw [inv.size]; exact his) hif, o, ho, hd⟩⟩
          · have hd' : ∃ e, e ∈ o.after ∧ Region.binds md e = true ∧ listed.getD e.on false = false := by
              refine Classical.byContradiction fun hno => hd fun e he hb => ?_
              cases hl : listed.getD e.on false with
              | true => rfl
              | false => exact absurd ⟨e, he, hb, hl⟩ hno
            obtain ⟨e, he, hb, hl⟩ := hd'
            have := hdown i his e.on ((hdirect i o ho _).2 ⟨e, he, hb, rfl⟩)
            try simp at this
            exact ihm e.on (by omega) (by omega) hl
      obtain ⟨j, hj⟩ := this i i (Nat.le_refl _) hi hif
      rw [h0] at hj; cases hj
    · intro i hir
      have hin := hready listed inv hun i hir
      obtain ⟨hiun, o, ho, hdeps⟩ := mem_ready.1 hir
      have his : i < ops.size := by omega
      have hisl : i < listed.size := by rw [inv.size]; exact his
      have hif := getD_both hiun
      have hdir : ∀ d ∈ direct md ops i, listed.getD d false = true := fun d hd => by
        obtain ⟨e, he, hb, rfl⟩ := (hdirect i o ho d).1 hd
        exact hdeps e he hb
      have hCl := hclosed listed inv i i (Nat.le_refl _) hin hdir
      have hodst : dst ops i = o.dst := by unfold dst; rw [ho]; rfl
      have hCi : ∀ q ∈ C.getD i [], q < n := fun q hq => by have := hCn i hin q hq; omega
      have hsame : ∀ t ∈ o.looksAt ops, a.tmps[t]? = (putAll ops v (C.getD i []) a0).tmps[t]? := fun t ht => by
        rw [I.at_.get, putAll_get hdist v _ _ hCi]
        cases hw : owner ops n t with
        | none => rfl
        | some j =>
          have hjC := hlook i o hin ho t ht j hw
          simp only
          rw [if_pos (hCl j hjC), if_pos hjC]
      have hprem := hop i o hin ho v w (cnt n listed) (by omega) I.old I.j (fun j hj => I.pr j (hCi j hj) (hCl j hj))
        (fun a' w' => ∃ x, a' = (putAll ops v (C.getD i []) a0).put o.dst x ∧ T w w' ∧ J (cnt n listed + 1) w' ∧ Pr i (upd v i x) w') (fun x w' h1 h2 h3 => ⟨x, rfl, h1, h2, h3⟩)
      have hcnt : cnt n (listed.setIfInBounds i true) = cnt n listed + 1 := by rw [cnt_set n hisl hif, if_pos hin]
      -- behind it all goes on
      have hgo : ∀ (x : Value) (w' : World), T w w' → J (cnt n listed + 1) w' → Pr i (upd v i x) w' → wpAny P md ops Q (f + g) (listed.setIfInBounds i true) (a.put o.dst x) w' := by
        intro x w' h1 h2 h3
        refine ih _ (upd v i x) _ w' (by omega) (inv.set hir hin) ⟨⟨?_, ?_, ?_⟩, Ttr _ _ _ I.old h1, by rw [hcnt]; exact h2, ?_⟩
        · rw [put_defers, I.at_.defers]
        · rw [put_size, I.at_.size]
        · intro t
          rw [put_get]
          by_cases ht : o.dst = some t
          · rw [if_pos ht, hdist i hin t (by rw [hodst]; exact ht)]
            have e1 : (listed.setIfInBounds i true).getD i false = true := by simp [hisl]
            simp only
            rw [if_pos e1, upd_self]
            by_cases hts : t < a.tmps.size
            · have hts0 : t < a0.tmps.size := by rw [← I.at_.size]; exact hts
              simp [hts, hts0]
            · have hts0 : ¬ t < a0.tmps.size := by rw [← I.at_.size]; exact hts
              simp [Array.getElem?_eq_none (Nat.le_of_not_lt hts), Array.getElem?_eq_none (Nat.le_of_not_lt hts0)]
          · rw [if_neg ht, I.at_.get]
            cases hw : owner ops n t with
            | none => rfl
            | some j =>
              have hji : i ≠ j := fun h => ht (by rw [← hodst, h]; exact (owner_some hw).2)
              simp only
              rw [getD_set_ne false hji, upd_ne v x (Ne.symm hji)]
        · intro j hj hjl
          by_cases hji : j = i
          · subst hji; exact h3
          · rw [getD_set_ne false (Ne.symm hji)] at hjl
            have hp := hst j hj v w w' (I.pr j hj hjl) h1
            refine hloc j hj v _ w' (fun q hq => ?_) hp
            have hqi : q ≠ i := by
              rcases List.mem_cons.1 hq with h | h
              · subst h; exact hji
              · obtain ⟨oj, hoj⟩ : ∃ oj, ops[j]? = some oj := ⟨_, Array.getElem?_eq_getElem (by omega : j < ops.size)⟩
                have := hclosed listed inv j j (Nat.le_refl _) hj (fun d hd => by
                  obtain ⟨e, he, hb, rfl⟩ := (hdirect j oj hoj d).1 hd
                  exact inv.closed j oj hoj hjl e he hb) q h
                intro h'; subst h'; rw [hif] at this; cases this
            rw [upd_ne v x hqi]
      unfold wpOp
      rw [ho]
      simp only
      rw [wanted_same hsame]
      split
      · rename_i hw
        rw [if_pos hw] at hprem
        have hmv := wp_move (Q := Q) (b := a) (eval_same hsame (Region.noSelect_spec hsel i o · · ho)) (by rw [putAll_size, I.at_.size]) hprem
        exact .inl (Oper.wp_mono (fun a' w' ⟨x, hx, h1, h2, h3⟩ => by rw [hx]; exact hgo x w' h1 h2 h3) hmv)
      · rename_i hw
        rw [if_neg hw] at hprem
        obtain ⟨x, hx, h1, h2, h3⟩ := hprem
        have : a.put o.dst undef = a.put o.dst x := put_same (by rw [putAll_size, I.at_.size]) hx
        rw [this]
        exact hgo x w h1 h2 h3

/-- the operations from number k on, one behind the other -/
def Prems (F : Nat → Oper → Prop) : Nat → List Oper → Prop
  | _, [] => True
  | k, o :: r => F k o ∧ Prems F (k+1) r
theorem Prems.get {F : Nat → Oper → Prop} : ∀ {k : Nat} {l : List Oper}, Prems F k l → ∀ i o, l[i]? = some o → F (k + i) o
  | k, [], _, i, o, h => by simp at h
  | k, o' :: r, hp, 0, o, h => by simp at h; subst h; exact hp.1
  | k, o' :: r, hp, i+1, o, h => by
    have := Prems.get hp.2 i o (by simpa using h)
    rwa [show k + 1 + i = k + (i + 1) by omega] at this
/-- facts told one by one -/
def Alls (F : Nat → Prop) : Nat → Nat → Prop
  | _, 0 => True
  | k, m+1 => F k ∧ Alls F (k+1) m
theorem Alls.get {F : Nat → Prop} : ∀ {k m : Nat}, Alls F k m → ∀ i, i < m → F (k + i)
  | k, 0, _, i, h => by omega
  | k, m+1, hp, 0, h => hp.1
  | k, m+1, hp, i+1, h => by
    have := Alls.get hp.2 i (by omega)
    rwa [show k + 1 + i = k + (i + 1) by omega] at this
theorem Alls.mk {F : Nat → Prop} : ∀ (m k : Nat), (∀ i, i < m → F (k + i)) → Alls F k m
  | 0, k, _ => trivial
  | m+1, k, h => ⟨h 0 (by omega), Alls.mk m (k+1) fun i hi => by have := h (i+1) (by omega); rwa [show k + (i + 1) = k + 1 + i by omega] at this⟩

/-- THE LAW: the first n operations of the region in whatever order, the others behind them. -/
theorem wp_region {id : Nat} {Q : Exit → Act → World → Prop} {a0 : Act} {w : World} {l : List Oper} (n : Nat) (ns : List Nat) (C : List (List Nat)) (ds : List (Option Tmp)) (T : World → World → Prop) (J : Nat → World → Prop) (Pr : List ((Nat → Value) → World → Prop))
    (hm : P.follows .mixedOrders = true) (hok : okB .any l.toArray n C = true) (hns : ns = List.range n) (hds : ((List.range n).all fun i => ds.getD i none == dst l.toArray i) = true)
    (htl : (decide (n = l.length) || (Region.sinkB .any l.toArray n && Region.chainB .any l.toArray n && decide (n < l.length))) = true)
    (hsq : Region.seqB .any l.toArray (l.length - n) n ((List.range l.length).map fun i => decide (i < n)).toArray = true)
    (Trefl : ∀ w, T w w) (Ttr : ∀ a b c, T a b → T b c → T a c) (hJ : J 0 { w with drawn := w.drawn + 1 })
    (hst : Alls (fun i => ∀ v w w', (Pr.getD i (fun _ _ => True)) v w → T w w' → (Pr.getD i (fun _ _ => True)) v w') 0 n)
    (hloc : Alls (fun i => ∀ v v' w, (∀ q ∈ i :: C.getD i [], v q = v' q) → (Pr.getD i (fun _ _ => True)) v w → (Pr.getD i (fun _ _ => True)) v' w) 0 n)
    (hop : Prems (Step P l.toArray n C ds a0 { w with drawn := w.drawn + 1 } T J Pr) 0 (l.take n))
    (hend : ∀ v w', T { w with drawn := w.drawn + 1 } w' → J n w' → Alls (fun i => (Pr.getD i (fun _ _ => True)) v w') 0 n → wpList P l.toArray Q (l.drop n) (putAt ds v ns a0) w') :
    (Code.region id l.toArray true).wp P Q a0 w := by
  subst hns
  have hdd : ∀ i, i < n → ds.getD i none = dst l.toArray i := fun i hi => by
    simp only [List.all_eq_true, List.mem_range] at hds
    simpa using hds i hi
  have hnle : n ≤ l.length := by
    simp only [okB, Bool.and_eq_true, decide_eq_true_eq] at hok
    simpa using hok.1.1.2
  have inv0 : HeadInv .any l.toArray n (Array.replicate l.toArray.size false) :=
    ⟨by simp, fun j oj _ hl => (by rw [getD_replicate_false] at hl; cases hl), fun t _ ht => getD_in (by simpa using ht) (getD_replicate_false _ _)⟩
  have c0 : cnt n (Array.replicate l.toArray.size false) = 0 := by
    unfold cnt
    rw [List.countP_eq_zero]
    intro i _
    rw [getD_replicate_false]; simp
  refine wp_region_any hm ?_
  have H := wpAny_rg (P := P) (md := .any) (ops := l.toArray) (n := n) (C := C) (a0 := a0) (w0 := { w with drawn := w.drawn + 1 }) (T := T) (J := J) (Pr := fun i => Pr.getD i (fun _ _ => True)) (Q := Q) (g := l.length - n)
    hok ?_ Trefl Ttr (fun i hi => by have := hst.get i hi; rwa [Nat.zero_add] at this) (fun i hi => by have := hloc.get i hi; rwa [Nat.zero_add] at this) (fun i o hi ho => ?_) ?_ n _ (fun _ => undef) a0 { w with drawn := w.drawn + 1 } (by rw [c0]; rfl) inv0 ?_
  · rwa [show n + (l.length - n) = l.toArray.size by simp; omega] at H
  · intro listed inv hun t ht
    simp only [Bool.or_eq_true, Bool.and_eq_true, decide_eq_true_eq] at htl
    rcases htl with h | ⟨⟨h1, h2⟩, h3⟩
    · obtain ⟨_, o, ho, _⟩ := mem_ready.1 ht
      have := (Array.getElem?_eq_some_iff.1 ho).1
      simp at this; omega
    · obtain ⟨i, hi, hif⟩ := hun
      rcases Nat.lt_or_ge t n with h | h
      · exact h
      · exact absurd ht (tail_waits h1 h2 (by simpa using h3) inv _ i rfl hi (getD_in (by rw [inv.size]; simp; omega) hif) t h)
  · have hs := hop.get i o (by rw [List.getElem?_take, if_pos hi]; simpa using ho)
    rw [Nat.zero_add] at hs
    intro v w k hk h1 h2 h3 K hK
    have hCi : ∀ j ∈ C.getD i [], ds.getD j none = dst l.toArray j := fun j hj => by
      simp only [okB, Bool.and_eq_true, decide_eq_true_eq, List.all_eq_true, List.mem_range] at hok
      have := (hok.2 i hi).1.2
      try simp only [List.all_eq_true] at this
      have := this j hj
      try simp only [Bool.and_eq_true, decide_eq_true_eq] at this
      exact hdd j (by omega)
    have := hs v w k hk h1 h2 h3 K (fun x w' g1 g2 g3 => by rw [putAt_eq _ _ hCi]; exact hK x w' g1 g2 g3)
    rw [putAt_eq _ _ hCi] at this
    cases hg : o.guard with
    | none =>
      rw [hg] at this
      rw [if_pos (by unfold Region.wanted; rw [hg])]
      exact this
    | some q => rw [hg] at this; exact this
  · intro listed inv hl v w' h1 h2 h3
    have e : listed = ((List.range l.length).map fun i => decide (i < n)).toArray := by
      have hs := inv.size
      simp at hs
      apply Array.ext
      · simp [hs]
      · intro i hi1 hi2
        by_cases hin : i < n
        · have := hl i hin
          simp [hi1] at this
          simp [this, hin]
        · have := inv.tail i (by omega) (by simp; omega)
          simp [hi1] at this
          simp [this, hin]
    have hw := hend v w' h1 h2 (Alls.mk n 0 fun i hi => by rw [Nat.zero_add]; exact h3 i hi)
    rw [putAt_eq _ _ fun i hi => hdd i (List.mem_range.1 hi)] at hw
    have := wpAny_of_seq (P := P) (md := .any) (ops := l.toArray) (Q' := Q) (l.drop n) n listed _ w' (fun j => by simp [List.getElem?_drop]) (by rw [List.length_drop, e]; exact hsq) hw
    rwa [List.length_drop] at this
  · refine ⟨⟨rfl, rfl, fun t => ?_⟩, Trefl _, by rw [c0]; exact hJ, fun i _ h => by rw [getD_replicate_false] at h; cases h⟩
    cases owner l.toArray n t with
    | none => rfl
    | some j => simp only; rw [getD_replicate_false]; rfl
end
end Go.Proofs.Ytjpngmdfnglabaa.RG
