/- What the arguments of a law read as, when they are opened: ints, lists of ints, views. -/
import Derived.Test.YtjpngmdfnglabaaRows
import Derived.Test.YtjpngmdfnglabaaLwA
import Derived.WalkKit
import Derived.ProofKit
import Derived.OpenShut
import Derived.ShutString
import Derived.ChangeOld
import Derived.Below
import Derived.Lib.SmallJoins
namespace Go.Proofs.Ytjpngmdfnglabaa
open Go.ChangeShapes Go.WideShapes Go.ChangeAt Go.RowKit Go.Joins
set_option linter.unusedVariables false
set_option maxRecDepth 100000

theorem own : ownKnob Try.prog.godebug = none := by kernel_rfl
theorem laidOut : laidOutB Try.prog = true := by kernel_rfl
theorem cellsInt : Try.prog.cellsOf 3 = 1 := by kernel_rfl

/-- a slice of ints that came in -/
def RawIn (w : World) (v : Value) (xs : List Int) : Prop := Raw w v xs ∧ xs.length ≤ maxLen

section
variable {H : Type} {enc : TypeId × Value → H} {w : World} {base : Nat} {spare : Nat → Bool} {held : Bool} {fuel : Nat}

theorem open_rawInts {v : Value} {x : DataW H × List MemPlace} (hf : DataW.trod enc Try.prog w base spare held fuel 29 [v] = some x) : ∃ xs, RawIn w v xs := by
  rcases open_ints Try.underlying29 Try.underlying3 cellsInt hf with ⟨hcs, _⟩ | ⟨a, l, c, zs, hcs, _, hl, hm, hz, _, hcell, hwz⟩
  · simp at hcs; subst hcs
    exact ⟨[], ⟨none, 0, rfl, fun _ => rfl, fun i hi => absurd hi (by simp)⟩, by simp⟩
  · simp at hcs; subst hcs
    have hlen : (zs.take l).length = l := by rw [List.length_take, hz]; split <;> omega
    refine ⟨zs.take l, ⟨some a, c, by rw [hlen], (fun h => by cases h), fun i hi => ?_⟩, by rw [hlen]; omega⟩
    have hi' : i < zs.length := by rw [List.length_take] at hi; omega
    have hc := hcell i hi'
    obtain ⟨b, off, spot⟩ := a
    have h0 := hcell 0 (by omega)
    have hspot : spot = none := by simpa [Addr.add] using World.cell?_spot h0
    subst hspot
    refine ⟨b, off, rfl, ?_⟩
    have e : (⟨b, off, none⟩ : Addr).add i = ⟨b, off + i, none⟩ := by unfold Addr.add; split <;> simp_all
    rw [e] at hc
    rw [hc]
    have hil : i < l := by rw [hlen] at hi; exact hi
    simp [hil]

theorem open_rawInt {v : Value} {x : DataW H × List MemPlace} (hf : DataW.trod enc Try.prog w base spare held fuel 3 [v] = some x) : ∃ n, v = .int .i64 n ∧ (Lit.int .i64 n).wf = true := by
  obtain ⟨n, hcs, _, hw⟩ := DataW.trod_int Try.underlying3 hf
  simp at hcs; exact ⟨n, hcs, hw⟩

/-- a view that came in -/
def ViewIn (w : World) (v : Value) (b : Int) (shape strides : List Int) : Prop := ∃ a cap a2 cap2, v = .agg #[.int .i64 b, .slice a shape.length cap, .slice a2 strides.length cap2] ∧ RawIn w (.slice a shape.length cap) shape ∧ RawIn w (.slice a2 strides.length cap2) strides

theorem RawIn.form {v : Value} {xs : List Int} (h : RawIn w v xs) : ∃ a cap, v = .slice a xs.length cap := by
  obtain ⟨⟨a, cap, hv, _⟩, _⟩ := h; exact ⟨a, cap, hv⟩

end

end Go.Proofs.Ytjpngmdfnglabaa
