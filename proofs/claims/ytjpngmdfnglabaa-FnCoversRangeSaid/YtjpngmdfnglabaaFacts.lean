/- What the joined form asks of the PROGRAM, whatever the function: each its own theorem. The head's long line of names is cut behind its third word first: read whole it outgrows the kernel's memory. -/
import Derived.Test.YtjpngmdfnglabaaRows
import Derived.KernelRfl
import Derived.JoinedOf
namespace Go.Proofs.Ytjpngmdfnglabaa.facts

theorem words_ne : ∀ l : List Char, wordsSigns l ≠ []
  | [] => by simp [wordsSigns]
  | c :: r => by
    unfold wordsSigns
    split
    · simp
    · simp
    · split <;> simp

theorem words_app (b : List Char) : ∀ a : List Char, wordsSigns (a ++ Char.ofNat 32 :: b) = wordsSigns a ++ wordsSigns b
  | [] => by rw [List.nil_append]; rfl
  | c :: r => by
    have ih := words_app b r
    by_cases h : c = Char.ofNat 32
    · subst h
      have e : ∀ l : List Char, wordsSigns (Char.ofNat 32 :: l) = [] :: wordsSigns l := fun l => rfl
      rw [List.cons_append, e, e, ih]; rfl
    · have e : ∀ l : List Char, wordsSigns (c :: l) = match wordsSigns l with | w :: ws => (c :: w) :: ws | [] => [[c]] := by
        intro l
        conv => lhs; unfold wordsSigns
        split
        · rename_i h1; cases h1
        · rename_i h1; cases h1; exact absurd rfl h
        · rename_i h1; cases h1; rfl
      rw [List.cons_append, e, e, ih]
      cases hr : wordsSigns r with
      | nil => exact absurd hr (words_ne r)
      | cons w ws => simp

theorem cut_at {l : List Char} (h : (l.drop 76).head? = some (Char.ofNat 32)) : l = l.take 76 ++ Char.ofNat 32 :: l.drop 77 := by
  have e := List.take_append_drop 76 l
  cases hd : l.drop 76 with
  | nil => rw [hd] at h; cases h
  | cons c r =>
    rw [hd] at h
    have hc : c = Char.ofNat 32 := Option.some.inj h
    have : l.drop 77 = r := by
      have := congrArg (List.drop 1) hd
      simpa [List.drop_drop] using this
    rw [this, ← hc, ← hd]; exact e.symm

set_option maxRecDepth 100000 in
theorem order : ∃ l, Try.checked.prog.initOrder = String.ofList l ∧ (l.drop 76).head? = some (Char.ofNat 32) ∧ ∀ W, behindMainWord (wordsSigns (l.take 76) ++ W) = "cut".toList :: W := by
  unfold Try.checked Try.prog
  refine ⟨_, rfl, ?_, ?_⟩
  · kernel_rfl
  · intro W; kernel_rfl

theorem behind_all : ∃ W, behindMainWord (wordsSigns Try.checked.prog.initOrder.toList) = "cut".toList :: W := by
  obtain ⟨l, e, h1, h2⟩ := order
  refine ⟨wordsSigns (l.drop 77), ?_⟩
  rw [e, String.toList_ofList, cut_at h1, words_app, ← cut_at h1]
  exact h2 _

theorem strip (W : List (List Char)) : stripLifts liftWords ("cut".toList :: W) = ([], "cut".toList :: W) := by kernel_rfl

theorem lifts : Try.checked.prog.headLifts = [] := by
  unfold Program.headLifts
  obtain ⟨W, e⟩ := behind_all
  rw [e, strip]
  kernel_rfl

theorem laysLater : Try.checked.prog.laysLater = false := by kernel_rfl
theorem bearsReflect : Try.checked.prog.bearsReflect = false := by kernel_rfl
theorem doorFits : Try.checked.prog.doorFits [] = true := by kernel_rfl

theorem mayEnter_of {P : Program} {W : List (List Char)} (e : behindMainWord (wordsSigns P.initOrder.toList) = "cut".toList :: W) (h1 : P.laysLater = false) (h2 : P.bearsReflect = false) (h3 : P.doorFits [] = true) : P.mayEnter = true := by
  unfold Program.mayEnter
  rw [e]
  simp only [strip, h1, h2, h3]
  kernel_rfl

theorem mayEnter : Try.checked.prog.mayEnter = true := by
  obtain ⟨W, e⟩ := behind_all
  exact mayEnter_of e laysLater bearsReflect doorFits

theorem liftsFinal_of {P : Program} {W : List (List Char)} (e : behindMainWord (wordsSigns P.initOrder.toList) = "cut".toList :: W) (h : P.headLifts = []) : P.liftsFinal = false := by
  unfold Program.liftsFinal
  rw [e, h]
  kernel_rfl

theorem liftsFinal : Try.checked.prog.liftsFinal = false := by
  obtain ⟨W, e⟩ := behind_all
  exact liftsFinal_of e lifts

theorem make_of {P : Program} {W : List (List Char)} (e : behindMainWord (wordsSigns P.initOrder.toList) = "cut".toList :: W) : P.make = some .cut := by
  unfold Program.make
  rw [e]
  kernel_rfl

theorem make : Try.checked.prog.make = some .cut := by
  obtain ⟨W, e⟩ := behind_all
  exact make_of e

theorem laid : laidOutB Try.checked.prog = true := by kernel_rfl
theorem mapped : mapsRowed Try.checked.prog = true := by kernel_rfl
theorem stops : Try.checked.prog.stops = [] := by kernel_rfl
theorem stopKnobs : Try.checked.prog.stopKnobs = [] := by kernel_rfl
theorem stopsHeard : Try.checked.prog.stopsHeard = true := by kernel_rfl
theorem plainKeys : Try.checked.prog.plainKeys = true := by kernel_rfl

set_option maxRecDepth 100000 in
theorem all {f : FuncId} {fn : Func} {s : ChangeSpec} {c : OpenClaim}
    (h1 : c.wf (OpenSpec.ofChange s) = true) (h2 : fn.params.all (Try.checked.prog.readableRec ·) = true) (h3 : namedTie Try.checked.prog c.named s.vars = true)
    (h4 : (c.stops == []) = true) (h5 : (c.knobs == []) = true)
    (h6 : (c.inPlace == Try.checked.prog.inPlace f) = true) (h7 : (c.unfollowed == Try.checked.prog.unfollowed f) = true) (h8 : (c.recurses == Try.checked.prog.recurses f) = true) (h9 : (c.named == Try.checked.prog.varsNamed f) = true)
    (h10 : (c.maps == (fn.params.toList ++ s.plain.varTypes Try.checked.prog).any (Try.checked.prog.mapsRec ·) && (c.ifaces == (fn.params.toList ++ s.plain.varTypes Try.checked.prog).any (Try.checked.prog.ifacesRec ·)) && (c.mapsOut == Try.checked.prog.mapsAmong fn.resultTypes.toList) &&
      (c.loops == (fn.params.toList ++ s.plain.varTypes Try.checked.prog).any (Try.checked.prog.loopsFrom ·)) && (c.wideKeys == (fn.params.toList ++ s.plain.varTypes Try.checked.prog ++ fn.resultTypes.toList).any (Try.checked.prog.wideKeysFrom ·))) = true)
    (h11 : (s.vars.all (Try.checked.prog.varReadable ·) && fn.resultTypes.all (fun t => Try.checked.prog.readableRec t && decide (t < Try.checked.prog.types.size)) && (c.ifacesOut == fn.resultTypes.toList.any (Try.checked.prog.ifacesRec ·)) && (c.loopsOut == fn.resultTypes.toList.any (Try.checked.prog.loopsFrom ·))) = true)
    (h12 : c.plainKeys = true) (h13 : c.shortTexts.isNone = true) (h14 : c.lifted = false) (h15 : c.make = .cut)
    (h16 : (c.kinds == (if c.domain.isEmpty then [] else fn.params.toList.map fun t => match Try.checked.prog.underlying t with | some (.int k) => some k | _ => none)) = true) (h17 : (c.pinned == c.pinnedBy) = true)
    (h18 : (c.veiled == (fn.params.toList ++ s.plain.varTypes Try.checked.prog ++ fn.resultTypes.toList).any (Try.checked.prog.veiledRec ·)) = true)
    (h19 : c.veiledFits Try.checked.prog fn.params.toList (fn.params.toList ++ s.plain.varTypes Try.checked.prog ++ fn.resultTypes.toList) = true) :
    joinedFacts Try.checked.prog f fn s c = true := by
  unfold joinedFacts
  simp only [Bool.and_eq_true] at h10 h11 ⊢
  obtain ⟨⟨⟨⟨a1, a2⟩, a3⟩, a4⟩, a5⟩ := h10
  obtain ⟨⟨⟨b1, b2⟩, b3⟩, b4⟩ := h11
  refine ⟨⟨⟨⟨⟨⟨⟨⟨⟨⟨⟨⟨⟨⟨⟨⟨⟨⟨⟨⟨⟨⟨⟨⟨⟨⟨⟨⟨⟨⟨⟨h1, laid⟩, mapped⟩, h2⟩, h3⟩, h4⟩, ?_⟩, h5⟩, ?_⟩, h6⟩, h7⟩, h8⟩, h9⟩, a1⟩, a2⟩, a3⟩, a4⟩, a5⟩, b1⟩, b2⟩, b3⟩, b4⟩, ?_⟩, h13⟩, stopsHeard⟩, mayEnter⟩, ?_⟩, ?_⟩, h16⟩, h17⟩, h18⟩, h19⟩
  · rw [stops]; rfl
  · rw [stopKnobs]; rfl
  · rw [plainKeys, h12]; rfl
  · rw [liftsFinal, h14]; rfl
  · rw [make, h15]; exact beq_self_eq_true _

end Go.Proofs.Ytjpngmdfnglabaa.facts
