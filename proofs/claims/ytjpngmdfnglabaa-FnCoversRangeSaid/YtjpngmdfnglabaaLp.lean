/- Words for loops that append to a row of their own beside a list that they read. No condition. -/
import Derived.Test.YtjpngmdfnglabaaLwD
namespace Go.Proofs.Ytjpngmdfnglabaa
open Go.RowKit
set_option linter.unusedVariables false

theorem Ext.frz {w w' : World} (h : Ext w w') {b o : Nat} {f : Bool} (hb : b < w.heap.size) (hf : w.frozen? ⟨b, o, none⟩ = f) : w'.frozen? ⟨b, o, none⟩ = f := (h.frule b o hb).trans hf

/-- the row v of the call's own, blocks from B on, reads ys; the list u, which is only read, lies apart from it -/
structure Beside (B : Nat) (w0 wr : World) (v : Value) (ys : List Int) (u : Value) (xs : List Int) : Prop where
  own : OwnI wr B v ys
  bel : Below B w0 wr
  ints : Ints wr 0 u xs
  size : B ≤ wr.heap.size
  sep : xs ≠ [] → ∀ b off n c, u = .slice (some ⟨b, off, none⟩) n c → v.ownBlock ≠ some b

theorem Beside.start {w1 w2 : World} {u : Value} {xs : List Int} {lo : Nat} (hx : Ext (w1.alloc (.cells #[] 3)) w2) (hi : Ints w2 lo u xs) (hl : w1.heap.size < lo) :
    Beside w1.heap.size w1 w2 (.slice (some ⟨w1.heap.size, 0, none⟩) 0 0) [] u xs := by
  have hx' : Ext w1 w2 := Ext.trans ((Ext.refl _).alloc _) hx
  refine ⟨(OwnI.lit0 w1 w1.heap.size (Nat.le_refl _)).ext hx, hx', hi.lower (Nat.zero_le _), hx'.size, fun hn b off n c hu => ?_⟩
  subst hu
  obtain ⟨b', off', h4, h5, _⟩ := hi.blk hn
  cases h4
  intro h; cases h; simp at h5; omega
theorem Beside.app {B : Nat} {w0 wr w3 : World} {v v' u : Value} {ys ys' xs : List Int} (h : Beside B w0 wr v ys u xs) (o : Obj) (ho : OwnI w3 B v' ys') (hg : (wr.alloc o).grownBy w3 v.ownBlock)
    (hb : Below B (wr.alloc o) w3) (hv : v'.ownBlock = v.ownBlock ∨ v'.ownBlock = some (wr.alloc o).heap.size) : Beside B w0 w3 v' ys' u xs := by
  have hz := hb.size
  have hs := h.size
  simp at hz
  have hi := h.ints.ext ((Ext.refl wr).alloc o)
  obtain ⟨a, c, rfl⟩ := hi.form
  refine ⟨ho, (h.bel.alloc h.size o).trans hb, hi.keepG hg (fun b off e hn => ?_), by omega, fun hn b off n c e => ?_⟩
  · subst e; exact h.sep hn b off _ _ rfl
  · cases e
    rcases hv with hv | hv
    · rw [hv]; exact h.sep hn b off _ _ rfl
    · rw [hv]
      obtain ⟨b'', off'', e3, _, e4⟩ := h.ints.blk hn
      cases e3; simp; omega
theorem Beside.ext {B : Nat} {w0 wr w3 : World} {v u : Value} {ys xs : List Int} (h : Beside B w0 wr v ys u xs) (hx : Ext wr w3) : Beside B w0 w3 v ys u xs :=
  ⟨h.own.ext hx, Below.trans h.bel (Below.mono hx h.size), h.ints.ext hx, Nat.le_trans h.size hx.size, h.sep⟩

theorem Ints.drop {w : World} {lo : Nat} {a : Option Addr} {n c : Nat} {xs : List Int} (h : Ints w lo (.slice a n c) xs) (k : Nat) (hk : k ≤ n) : Ints w lo (.slice (if c = k then a else a.map (·.add k)) (n - k) (c - k)) (xs.drop k) := by
  obtain ⟨a', cap, hv, h1, h2, ⟨h3, h3'⟩, h4⟩ := h
  cases hv
  have hl : (xs.drop k).length = xs.length - k := by simp
  refine ⟨_, c - k, by rw [hl], by omega, by omega, ⟨by omega, fun e => ?_⟩, fun i hi => ?_⟩
  · by_cases hc : c = k
    · omega
    · rw [if_neg hc] at e
      cases a with
      | none => have := h3' rfl; omega
      | some ad => simp at e
  · obtain ⟨b, off, rfl, hb, hc, hf⟩ := h4 (k + i) (by omega)
    rw [if_neg (by omega)]
    have e : (⟨b, off, none⟩ : Addr).add k = ⟨b, off + k, none⟩ := by unfold Addr.add; split <;> simp_all
    refine ⟨b, off + k, by rw [Option.map_some, e], hb, ?_, by rw [Nat.add_assoc]; exact hf⟩
    rw [Nat.add_assoc, hc]
    simp [show k + i < xs.length by omega]

theorem Ints.drop1 {w : World} {lo b off : Nat} {n c : Nat} {xs : List Int} (h : Ints w lo (.slice (some ⟨b, off, none⟩) n c) xs) (k : Nat) (hk : k ≤ n) (hc : c ≠ k) : Ints w lo (.slice (some ⟨b, off + k, none⟩) (n - k) (c - k)) (xs.drop k) := by
  have := h.drop k hk
  rw [if_neg hc] at this
  have e : (⟨b, off, none⟩ : Addr).add k = ⟨b, off + k, none⟩ := by unfold Addr.add; split <;> simp_all
  rwa [Option.map_some, e] at this
theorem Ints.drop0 {w : World} {lo b off : Nat} {n c : Nat} {xs : List Int} (h : Ints w lo (.slice (some ⟨b, off, none⟩) n c) xs) (k : Nat) (hk : k ≤ n) (hc : c = k) : Ints w lo (.slice (some ⟨b, off, none⟩) (n - k) 0) (xs.drop k) := by
  have := h.drop k hk
  rw [if_pos hc] at this
  subst hc
  rwa [Nat.sub_self] at this

theorem PInts.nilv {w w' : World} (h : Ext w w') : PInts w [] (.returned (.slice none 0 0)) w' :=
  ⟨_, rfl, Ints.nil _ _ _ _ (by simp) (fun _ => rfl), .inl ⟨rfl, none, 0, rfl, by simp, fun _ => rfl⟩, h⟩
theorem PInts.of {w w' : World} {lo base : Nat} {xs : List Int} {v : Value} (h : OwnZ w' base v xs) (hi : Ints w' lo v xs) (hb : w.heap.size ≤ base) (hx : Ext w w') : PInts w xs (.returned v) w' := PInts.mkz h hb hi.len hx

theorem mk_ints (n : Nat) (hn : n ≤ 4194304) : ∀ w : World, (Instr.makeSlice 29 (.int .i64 (n : Int)) (.int .i64 (n : Int))).run Try.prog w = .ok (.slice (some ⟨w.heap.size, 0, none⟩) n n) (w.alloc (.cells (madeCells #[Value.int .i64 0] n) 3)) := by
  intro w
  obtain ⟨i0, hi, hz0, hz1, hz2⟩ := info_parts infoInt
  have := run_makeSlice (P := Try.prog) (w := w) 29 3 i0 (.int .i64 0) Try.underlying29 hi hz0 .i64 .i64 n n (by omega) (Int.le_refl _) (by rw [hz1]; simp; omega) (by rw [hz2]; omega) (by omega)
  simpa [hz1, Value.cells] using this
theorem OwnI.made (w : World) (base n : Nat) (hb : base ≤ w.heap.size) (hn : n ≤ 4194304) : OwnI (w.alloc (.cells (madeCells #[Value.int .i64 0] n) 3)) base (.slice (some ⟨w.heap.size, 0, none⟩) n n) (List.replicate n 0) := by
  have := World.ownsRow_lit (e := 3) (size := 1) w (madeCells #[Value.int .i64 0] n) n hb (by unfold maxLen; omega) (by simp [madeCells])
  unfold OwnI
  rw [made_ints] at this
  simpa using this

end Go.Proofs.Ytjpngmdfnglabaa
