/- What the argument of a law on drawn data reads as, when it is opened: a slice of bytes. -/
import Derived.Test.YtjpngmdfnglabaaOpen
import Derived.Test.YtjpngmdfnglabaaGenA
namespace Go.Proofs.Ytjpngmdfnglabaa
open Go.ChangeShapes Go.WideShapes Go.ChangeAt Go.RowKit Go.Joins
set_option linter.unusedVariables false

theorem bys_of_cells {W : World} {x : Addr} {n cap : Nat} {zs : List Int} (hl : n ≤ cap) (hm : cap ≤ maxLen) (hz : zs.length = cap) (hcell : ∀ i, i < zs.length → W.cell? (x.add i) = some (.int .u8 (zs.getD i 0))) (hwz : ∀ m ∈ zs, (Lit.int .u8 m).wf = true) : BysIn W (some x) n cap := by
  refine ⟨hl, hm, fun i hi => ?_⟩
  obtain ⟨b, off, spot⟩ := x
  have h0 := hcell 0 (by omega)
  have hspot : spot = none := by simpa [Addr.add] using World.cell?_spot h0
  subst hspot
  have hc := hcell i (by omega)
  have e : (⟨b, off, none⟩ : Addr).add i = ⟨b, off + i, none⟩ := by unfold Addr.add; split <;> simp_all
  rw [e] at hc
  have hw := hwz (zs.getD i 0) (by simp [show i < zs.length by omega])
  refine ⟨b, off, _, rfl, hc, ?_⟩
  have := bounds_u8 hw
  omega

end Go.Proofs.Ytjpngmdfnglabaa
