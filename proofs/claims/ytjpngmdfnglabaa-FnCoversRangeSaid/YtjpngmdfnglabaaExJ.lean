/- Walks: SwapViews of the program and of the reference. -/
import Derived.Test.YtjpngmdfnglabaaMemA
namespace Go.Proofs.Ytjpngmdfnglabaa
open Go.RowKit
set_option linter.unusedVariables false
set_option maxRecDepth 100000

def pairB (mem : List Int) (b1 : Int) (s1 t1 : List Int) (b2 : Int) (s2 t2 : List Int) : Bool := holdB mem b1 s1 t1 && (holdB mem b2 s2 t2 && sameB s1 s2)
def swapB (mem : List Int) (b1 : Int) (s1 t1 : List Int) (b2 : Int) (s2 t2 : List Int) : Bool :=
  pairB mem b1 s1 t1 b2 s2 t2 && (decide ((bothL (offsL b1 s1 t1) (offsL b2 s2 t2)).length = 0) && (decide (offsL b1 s1 t1).Nodup && decide (offsL b2 s2 t2).Nodup))
def swapA (mem : List Int) (b1 : Int) (s1 t1 : List Int) (b2 : Int) (s2 t2 : List Int) : List Int :=
  if swapB mem b1 s1 t1 b2 s2 t2 then putL (putL mem (offsL b1 s1 t1) (loadL mem b2 s2 t2)) (offsL b2 s2 t2) (loadL mem b1 s1 t1) else []
/-- a call hands back a new list and whether it could be made -/
def PIntsB (w : World) (xs : List Int) (b : Bool) (e : Ending) (w' : World) : Prop := ∃ v, e = .returned (.tuple #[v, .bool b]) ∧ Ints w' w.heap.size v xs ∧ OwnZ w' w.heap.size v xs ∧ Ext w w'
theorem PIntsB.no {w w' : World} (h : Ext w w') : PIntsB w [] false (.returned (.tuple #[.slice none 0 0, .bool false])) w' :=
  ⟨_, rfl, Ints.nil _ _ _ _ (by simp) (fun _ => rfl), .inl ⟨rfl, none, 0, rfl, by simp, fun _ => rfl⟩, h⟩
theorem PIntsB.yes {w w' : World} {lo base : Nat} {xs : List Int} {v : Value} (h : OwnZ w' base v xs) (hi : Ints w' lo v xs) (hb : w.heap.size ≤ base) (hx : Ext w w') : PIntsB w xs true (.returned (.tuple #[v, .bool true])) w' :=
  ⟨v, rfl, (h.lower hb).ints hi.len, h.lower hb, hx⟩
theorem putL_len (mem ix vs : List Int) : (putL mem ix vs).length = mem.length := putUp_len _ _ _ _

end Go.Proofs.Ytjpngmdfnglabaa
