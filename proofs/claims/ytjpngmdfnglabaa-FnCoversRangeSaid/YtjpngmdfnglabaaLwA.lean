/- Walks of the laws' own helpers on lists of ints and on views. -/
import Derived.Test.YtjpngmdfnglabaaMem
namespace Go.Proofs.Ytjpngmdfnglabaa
open Go.RowKit
set_option linter.unusedVariables false
set_option maxRecDepth 100000

/-- a slice of ints that came in -/
def Raw (w : World) (v : Value) (xs : List Int) : Prop :=
  ∃ a cap, v = .slice a xs.length cap ∧ (a = none → cap = 0) ∧
    ∀ i, i < xs.length → ∃ b off, a = some ⟨b, off, none⟩ ∧ w.cell? ⟨b, off + i, none⟩ = some (.int .i64 (xs.getD i 0))

theorem Raw.ext {w w' : World} {v : Value} {xs : List Int} (h : Raw w v xs) (hx : Ext w w') : Raw w' v xs := by
  obtain ⟨a, cap, hv, h1, h2⟩ := h
  refine ⟨a, cap, hv, h1, fun i hi => ?_⟩
  obtain ⟨b, off, ha, hc⟩ := h2 i hi
  exact ⟨b, off, ha, hx.cell hc⟩

def szN (left : Int) (n : Nat) : Int := if left < n then -1 else left - n

def szV (left : Int) (n m : Nat) : Int := if szN left n < 0 then -1 else szN (szN left n) m
theorem szN_ge (left : Int) (n : Nat) : -1 ≤ szN left n ∧ (0 ≤ left → szN left n ≤ left) ∧ (0 ≤ szN left n → (n : Int) ≤ left ∧ szN left n = left - n) := by unfold szN; split <;> omega

/-- k, k + 1, .. -/
def ksL (k : Int) (n : Nat) : List Int := (List.range n).map fun i : Nat => k + i
theorem ksL_len (k : Int) (n : Nat) : (ksL k n).length = n := by simp [ksL]
theorem ksL_get (k : Int) (n i : Nat) (h : i < n) : (ksL k n).getD i 0 = k + i := by simp [ksL, h]

theorem ksL_succ (k : Int) (n : Nat) : ksL k (n+1) = ksL k n ++ [k + n] := by simp [ksL, List.range_succ]
end Go.Proofs.Ytjpngmdfnglabaa
