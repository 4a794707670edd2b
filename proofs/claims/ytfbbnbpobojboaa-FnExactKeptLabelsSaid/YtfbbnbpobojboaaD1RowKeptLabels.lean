/- Texts of these proofs put together: Rec, Shelf, PureA, Lib, ViewD, ViewE, ViewF, PureB, ViewG, Lp, ExI, MemA, RlA, PureC, PureV, ExJ, ExD, ExG, RngA, ExK, ExL, ExM, SvA, SvB, SvC, PureW, PureX, PureY, RngB, RngC, SlA, PureZ, Rg, GenA, RgL, Kit, SvE, SvF, SvG, SvD, SvH, KitB, SvI, GenB, GenC, GenD, SvJ, LvA, RlT, RxT, OpT, RlL, RxL, OpL, TnP, TnQ, KlP, LvB, LvF, LvE, LvH, LvG, PureM, LvI, LvJ, TnA, KitC, DelA, InsA, KitD. No condition. -/
import Derived.Test.YtfbbnbpobojboaaM1
import Derived.Shelf.Small.Bits
import Derived.Shelf.Strconv.Itoa0
import Derived.Shelf.Sort.Plain
import Derived.Shelf.Slices.Turned
import Derived.Shelf.Slices.Reverse
import Derived.Shelf.Slices.Equal
import Derived.Ground.Names2Prog
import Derived.Shelf.Slices.CompactI
import Derived.Shelf.Slices.SearchI
import Derived.Shelf.Slices.Cells
import Derived.Shelf.Slices.In.SortNone
import Derived.Shelf.Slices.Empties2
import Derived.Test.YtfbbnbpobojboaaProg
import Derived.Lib.SlicesCompact
import Derived.Sort.OwnSortedInts
import Derived.StillTail
import Derived.Deep.DeepCutAuto
import Derived.Deep.CutBlock
import Derived.Deep.RegionHeld3
import Derived.WalkKit
import Derived.StillTailTactics
import Derived.Deep.Slices
import Derived.Deep.Strs
import Derived.Shelf.Spec.SlicesInsertGrow
set_option linter.unusedVariables false
set_option linter.unusedSimpArgs false
/- Words for memory: slices whose elements take several cells. No condition. -/
namespace Go.Proofs.Ytfbbnbpobojboaa
open Go.RowKit

theorem flat_len {sz : Nat} : ∀ {L : List (List Value)}, (∀ c ∈ L, c.length = sz) → L.flatten.length = L.length * sz
  | [], _ => by simp
  | c :: L, h => by
    rw [List.flatten_cons, List.length_append, flat_len (fun c hc => h c (List.mem_cons_of_mem _ hc)), h c (List.mem_cons_self ..), List.length_cons, Nat.add_mul]
    omega
theorem flat_get {sz : Nat} : ∀ {L : List (List Value)}, (∀ c ∈ L, c.length = sz) → ∀ (i j : Nat) (hi : i < L.length) (hj : j < sz), L.flatten[i * sz + j]? = (L[i])[j]?
  | [], _, i, j, hi, _ => absurd hi (by simp)
  | c :: L, h, 0, j, _, hj => by
    have hc := h c (List.mem_cons_self ..)
    simp only [List.flatten_cons, Nat.zero_mul, Nat.zero_add, List.getElem_cons_zero]
    rw [List.getElem?_append_left (by omega)]
  | c :: L, h, i+1, j, hi, hj => by
    have hc := h c (List.mem_cons_self ..)
    have hi' : i < L.length := by simpa using hi
    have e : (i + 1) * sz + j = c.length + (i * sz + j) := by rw [Nat.add_mul, hc]; omega
    rw [List.flatten_cons, e, List.getElem?_append_right (by omega), Nat.add_sub_cancel_left, flat_get (fun c hc => h c (List.mem_cons_of_mem _ hc)) i j hi' hj]
    simp
theorem flat_set {sz : Nat} : ∀ {L : List (List Value)}, (∀ c ∈ L, c.length = sz) → ∀ (i j : Nat) (hi : i < L.length) (hj : j < sz) (x : Value), L.flatten.set (i * sz + j) x = (L.set i ((L[i]).set j x)).flatten
  | [], _, i, j, hi, _, _ => absurd hi (by simp)
  | c :: L, h, 0, j, _, hj, x => by
    have hc := h c (List.mem_cons_self ..)
    simp only [List.flatten_cons, Nat.zero_mul, Nat.zero_add, List.set_cons_zero, List.getElem_cons_zero]
    rw [List.set_append_left _ _ (by omega)]
  | c :: L, h, i+1, j, hi, hj, x => by
    have hc := h c (List.mem_cons_self ..)
    have hi' : i < L.length := by simpa using hi
    have e : (i + 1) * sz + j = c.length + (i * sz + j) := by rw [Nat.add_mul, hc]; omega
    rw [List.flatten_cons, e, List.set_append_right _ _ (by omega), Nat.add_sub_cancel_left, flat_set (fun c hc => h c (List.mem_cons_of_mem _ hc)) i j hi' hj x]
    simp
theorem mem_set_len {sz : Nat} {L : List (List Value)} (h : ∀ c ∈ L, c.length = sz) (i : Nat) {d : List Value} (hd : d.length = sz) : ∀ c ∈ L.set i d, c.length = sz := by
  intro c hc
  rcases List.mem_or_eq_of_mem_set hc with h' | h'
  · exact h c h'
  · rw [h', hd]

/-- an owned row whose elements take sz cells each -/
def OwnC (w : World) (base E sz : Nat) (v : Value) (L : List (List Value)) : Prop := w.ownsRow base E sz v L.length L.flatten ∧ ∀ c ∈ L, c.length = sz

section
variable {w w' : World} {base base' E sz : Nat} {v : Value} {L : List (List Value)}
theorem OwnC.nil : OwnC w base E sz (.slice none 0 0) [] := ⟨World.ownsRow_nil _ _ _ _, fun c hc => by cases hc⟩
theorem OwnC.ext (h : OwnC w base E sz v L) (hx : Ext w w') : OwnC w' base E sz v L := by
  refine ⟨⟨h.1.1, ?_⟩, h.2⟩
  rcases h.1.2 with h2 | ⟨g, cap, cur, hv, hg, hh, r⟩
  · exact .inl h2
  · exact .inr ⟨g, cap, cur, hv, hg, (hx.block g (Array.getElem?_eq_some_iff.1 hh).1).trans hh, r⟩
theorem OwnC.lower (h : OwnC w base E sz v L) (hb : base' ≤ base) : OwnC w base' E sz v L :=
  ⟨⟨h.1.1, h.1.2.imp id fun ⟨g, cap, cur, hv, hg, r⟩ => ⟨g, cap, cur, hv, Nat.le_trans hb hg, r⟩⟩, h.2⟩
theorem OwnC.kept {row : Option Nat} (h : OwnC w base E sz v L) (hg : w.grownBy w' row) (hne : v.ownBlock = none ∨ v.ownBlock ≠ row) : OwnC w' base E sz v L := ⟨World.ownsRow.kept h.1 hg hne, h.2⟩
theorem OwnC.chg {lo hi : Nat} (h : OwnC w base E sz v L) (k : Chg lo hi w w') (hb : hi ≤ base) : OwnC w' base E sz v L := by
  refine ⟨⟨h.1.1, ?_⟩, h.2⟩
  rcases h.1.2 with h2 | ⟨g, cap, cur, hv, hg, hh, r⟩
  · exact .inl h2
  · exact .inr ⟨g, cap, cur, hv, hg, (k.block g (Array.getElem?_eq_some_iff.1 hh).1 (.inr (by omega))).trans hh, r⟩
theorem OwnC.form (h : OwnC w base E sz v L) : ∃ a c, v = .slice a L.length c := by
  rcases h.1.2 with ⟨rfl, h0⟩ | ⟨g, cap, cur, rfl, _⟩
  · rw [h0]; exact ⟨_, _, rfl⟩
  · exact ⟨_, _, rfl⟩
theorem OwnC.lt (h : OwnC w base E sz v L) (hn : L ≠ []) : ∃ g c, v = .slice (some ⟨g, 0, none⟩) L.length c ∧ v.ownBlock = some g ∧ base ≤ g ∧ g < w.heap.size ∧ L.length ≤ c ∧ c ≤ maxLen := by
  rcases h.1.2 with ⟨rfl, h0⟩ | ⟨g, cap, cur, rfl, hb, hh, h1, h2, _⟩
  · exact absurd (List.eq_nil_of_length_eq_zero h0) hn
  · exact ⟨g, cap, rfl, rfl, hb, (Array.getElem?_eq_some_iff.1 hh).1, h1, h2⟩
theorem OwnC.cell {g c : Nat} (h : OwnC w base E sz (.slice (some ⟨g, 0, none⟩) L.length c) L) (i j : Nat) (hi : i < L.length) (hj : j < sz) :
    w.cell? ⟨g, i * sz + j, none⟩ = (L[i])[j]? ∧ w.frozen? ⟨g, i * sz + j, none⟩ = false := by
  refine ⟨?_, World.ownsRow.frozenAt h.1 _⟩
  rw [World.ownsRow.cellAt h.1 _ ?_, flat_get h.2 i j hi hj]
  calc i * sz + j < i * sz + sz := by omega
    _ = (i + 1) * sz := by rw [Nat.add_mul]; omega
    _ ≤ L.length * sz := Nat.mul_le_mul_right _ hi
theorem OwnC.set {g c : Nat} (h : OwnC w base E sz (.slice (some ⟨g, 0, none⟩) L.length c) L) (i j : Nat) (hi : i < L.length) (hj : j < sz) (x : Value) :
    OwnC (w.setCell ⟨g, i * sz + j, none⟩ x) base E sz (.slice (some ⟨g, 0, none⟩) L.length c) (L.set i ((L[i]).set j x)) := by
  have h1 := (World.ownsRow.stored h.1 (i * sz + j) x).1
  rw [flat_set h.2 i j hi hj] at h1
  refine ⟨by rw [List.length_set]; exact h1, mem_set_len h.2 i ?_⟩
  rw [List.length_set]; exact h.2 _ (List.getElem_mem hi)
theorem OwnC.made (w : World) (cs : Array Value) (n : Nat) (hb : base ≤ w.heap.size) (hm : L.length ≤ maxLen) (hs : cs.toList = L.flatten) (hl : ∀ c ∈ L, c.length = sz) :
    OwnC (w.alloc (.cells cs E)) base E sz (.slice (some ⟨w.heap.size, 0, none⟩) L.length L.length) L := by
  refine ⟨?_, hl⟩
  rw [← hs]
  exact World.ownsRow_lit w cs L.length hb hm (by have := congrArg List.length hs; rw [flat_len hl] at this; simpa using this)

end
section
variable {T E sz bytes : Nat} {z : Value} {w : World} {base : Nat} {v src : Value} {L : List (List Value)} {c : List Value}
end

end Go.Proofs.Ytfbbnbpobojboaa

/- The contracts of library functions, laid at this translation: no condition. -/
namespace Go.Proofs
open Go.Shelf
def Try.lays189_ren : Go.Shelf.Ren := ⟨fun | 189 => 111 | 125 => 161 | 257 => 160 | 128 => 189 | 129 => 190 | 294 => 180 | 295 => 181 | 296 => 182 | 297 => 183 | 298 => 184 | 299 => 185 | 216 => 186 | 300 => 187 | 301 => 188 | 328 => 195 | 329 => 196 | 330 => 197 | 331 => 198 | 332 => 199 | 215 => 200 | 343 => 201 | n => n, fun | 28 => 22 | 3 => 3 | 46 => 146 | 0 => 0 | 51 => 164 | 53 => 166 | 4 => 4 | 183 => 157 | 182 => 156 | 131 => 161 | 5 => 5 | 9 => 9 | 218 => 168 | 222 => 172 | 228 => 174 | 229 => 175 | n => n, fun | n => n⟩
theorem Try.lays189 : Go.Proofs.Lays.n189 Try.prog Try.lays189_ren := {
  mixed := by kernel_rfl
  f125 := Try.func161.trans (congrArg some (by kernel_rfl))
  f128 := Try.func189.trans (congrArg some (by kernel_rfl))
  f129 := Try.func190.trans (congrArg some (by kernel_rfl))
  f189 := Try.func111.trans (congrArg some (by kernel_rfl))
  f215 := Try.func200.trans (congrArg some (by kernel_rfl))
  f216 := Try.func186.trans (congrArg some (by kernel_rfl))
  f257 := Try.func160.trans (congrArg some (by kernel_rfl))
  f294 := Try.func180.trans (congrArg some (by kernel_rfl))
  f295 := Try.func181.trans (congrArg some (by kernel_rfl))
  f296 := Try.func182.trans (congrArg some (by kernel_rfl))
  f297 := Try.func183.trans (congrArg some (by kernel_rfl))
  f298 := Try.func184.trans (congrArg some (by kernel_rfl))
  f299 := Try.func185.trans (congrArg some (by kernel_rfl))
  f300 := Try.func187.trans (congrArg some (by kernel_rfl))
  f301 := Try.func188.trans (congrArg some (by kernel_rfl))
  f328 := Try.func195.trans (congrArg some (by kernel_rfl))
  f329 := Try.func196.trans (congrArg some (by kernel_rfl))
  f330 := Try.func197.trans (congrArg some (by kernel_rfl))
  f331 := Try.func198.trans (congrArg some (by kernel_rfl))
  f332 := Try.func199.trans (congrArg some (by kernel_rfl))
  f343 := Try.func201.trans (congrArg some (by kernel_rfl))
  t0 := Try.underlying0
  a0 := Try.isAgg0
  z0 := Try.sizeOf0
  v0 := Try.zeroValue0
  t3 := Try.underlying3
  a3 := Try.isAgg3
  z3 := Try.sizeOf3
  v3 := Try.zeroValue3
  t4 := Try.underlying4
  a4 := Try.isAgg4
  z4 := Try.sizeOf4
  v4 := Try.zeroValue4
  t5 := Try.underlying5
  a5 := Try.isAgg5
  z5 := Try.sizeOf5
  v5 := Try.zeroValue5
  t9 := Try.underlying9
  a9 := Try.isAgg9
  z9 := Try.sizeOf9
  v9 := Try.zeroValue9
  t28 := Try.underlying22
  a28 := Try.isAgg22
  z28 := Try.sizeOf22
  v28 := Try.zeroValue22
  t46 := Try.underlying146
  a46 := Try.isAgg146
  z46 := Try.sizeOf146
  v46 := Try.zeroValue146
  t51 := Try.underlying164
  a51 := Try.isAgg164
  z51 := Try.sizeOf164
  v51 := Try.zeroValue164
  t53 := Try.underlying166
  a53 := Try.isAgg166
  z53 := Try.sizeOf166
  v53 := Try.zeroValue166
  t131 := Try.underlying161
  a131 := Try.isAgg161
  z131 := Try.sizeOf161
  v131 := Try.zeroValue161
  t182 := Try.underlying156
  a182 := Try.isAgg156
  z182 := Try.sizeOf156
  v182 := Try.zeroValue156
  t183 := Try.underlying157
  a183 := Try.isAgg157
  z183 := Try.sizeOf157
  v183 := Try.zeroValue157
  t218 := Try.underlying168
  a218 := Try.isAgg168
  z218 := Try.sizeOf168
  v218 := Try.zeroValue168
  t222 := Try.underlying172
  a222 := Try.isAgg172
  z222 := Try.sizeOf172
  v222 := Try.zeroValue172
  t228 := Try.underlying174
  a228 := Try.isAgg174
  z228 := Try.sizeOf174
  v228 := Try.zeroValue174
  t229 := Try.underlying175
  a229 := Try.isAgg175
  z229 := Try.sizeOf175
  v229 := Try.zeroValue175 }
open Go.Sort Go.RowKit in
theorem Try.slices_Sort_int (blk off cap : Nat) (zs : List Int) (w : World) (hH : Holds (Value.int .i64) w blk off zs.toArray) (hblk : blk < w.heap.size) (hsz : zs.length < 4611686018427387904) :
    Calls Try.prog 111 #[.slice (some ⟨blk, off, none⟩) zs.length cap] w fun e w' =>
      e = .returned (.tuple #[]) ∧ ∃ n os, w' = grow (putRow (Value.int .i64) (Sort.ahead w n) blk off (zs.mergeSort fun x y => decide (x ≤ y)).toArray) os := Any.slices_Sort_int Try.lays189 blk off cap zs w hH hblk hsz
def Try.lays107_ren : Go.Shelf.Ren := ⟨fun | 107 => 142 | 108 => 172 | n => n, fun | 28 => 22 | 3 => 3 | 4 => 4 | 0 => 0 | n => n, fun | n => n⟩
theorem Try.lays107 : Go.Proofs.Lays.n107 Try.prog Try.lays107_ren := {
  mixed := by kernel_rfl
  f107 := Try.func142.trans (congrArg some (by kernel_rfl))
  f108 := Try.func172.trans (congrArg some (by kernel_rfl))
  t0 := Try.underlying0
  a0 := Try.isAgg0
  z0 := Try.sizeOf0
  v0 := Try.zeroValue0
  t3 := Try.underlying3
  a3 := Try.isAgg3
  z3 := Try.sizeOf3
  v3 := Try.zeroValue3
  t4 := Try.underlying4
  a4 := Try.isAgg4
  z4 := Try.sizeOf4
  v4 := Try.zeroValue4
  t28 := Try.underlying22
  a28 := Try.isAgg22
  z28 := Try.sizeOf22
  v28 := Try.zeroValue22 }
open Go.Lib in
theorem Try.slices_Contains_int (b off n c : Nat) (zs : List Int) (x : Int) (w : World) (hz : n ≤ zs.length) (hbig : n ≤ 9223372036854775807) (hc : ∀ j, j < zs.length → w.cell? ⟨b, off + j, none⟩ = some (.int .i64 (zs.getD j 0))) :
    Calls Try.prog 142 #[.slice (some ⟨b, off, none⟩) n c, .int .i64 x] w fun e w' => e = .returned (.bool ((zs.take n).contains x)) ∧ w' = w := Any.slices_Contains_int Try.lays107 b off n c zs x w hz hbig hc
open Go.Lib in
theorem Try.slices_Contains_int_empty (a : Option Addr) (c : Nat) (x : Int) (w : World) :
    Calls Try.prog 142 #[.slice a 0 c, .int .i64 x] w fun e w' => e = .returned (.bool false) ∧ w' = w := Any.slices_Contains_int_empty Try.lays107 a c x w
def Try.laysNm220_ren : Go.Shelf.Ren := ⟨fun | 20 => 162 | n => n, fun | 22 => 22 | 3 => 3 | 4 => 4 | 0 => 0 | n => n, fun | n => n⟩
theorem Try.laysNm220 : Go.Proofs.Lays2.n20 Try.prog Try.laysNm220_ren := {
  mixed := by kernel_rfl
  f20 := Try.func162.trans (congrArg some (by kernel_rfl))
  t0 := Try.underlying0
  a0 := Try.isAgg0
  z0 := Try.sizeOf0
  v0 := Try.zeroValue0
  t3 := Try.underlying3
  a3 := Try.isAgg3
  z3 := Try.sizeOf3
  v3 := Try.zeroValue3
  t4 := Try.underlying4
  a4 := Try.isAgg4
  z4 := Try.sizeOf4
  v4 := Try.zeroValue4
  t22 := Try.underlying22
  a22 := Try.isAgg22
  z22 := Try.sizeOf22
  v22 := Try.zeroValue22
  i3 := by kernel_rfl }
open Go.RowKit Go.Lib Go.Sort in
theorem Try.slices_Compact_int (blk off cap : Nat) (zs : List Int) (w : World) (hH : Holds (Value.int .i64) w blk off zs.toArray) (hsz : zs.length ≤ 9223372036854775807) (hcap : zs.length ≤ cap) :
    Calls Try.prog 162 #[.slice (some ⟨blk, off, none⟩) zs.length cap] w fun e w' => e = .returned (.slice (some ⟨blk, off, none⟩) (Lib.compact zs).length cap) ∧ ∃ q, w' = putRow (Value.int .i64) (Sort.ahead w q) blk off (Lib.compact zs ++ List.replicate (zs.length - (Lib.compact zs).length) 0).toArray := Any.slices_Compact_int Try.laysNm220 blk off cap zs w hH hsz hcap
open Go.RowKit Go.Lib Go.Sort in
theorem Try.slices_Compact_int_empty (a : Option Addr) (cap : Nat) (w : World) :
    Calls Try.prog 162 #[.slice a 0 cap] w fun e w' => e = .returned (.slice a 0 cap) ∧ w' = w := Any.slices_Compact_int_empty Try.laysNm220 a cap w
open Go.RowKit Go.Sort in
theorem Try.slices_Sort_int_none (p : Option Addr) (cap : Nat) (w : World) :
    Calls Try.prog 111 #[.slice p 0 cap] w fun e w' => e = .returned (.tuple #[]) ∧ w' = w := Any.slices_Sort_int_none Try.lays189 p cap w
end Go.Proofs

/- Plain laws on lists of ints: ascending lists, sorted and compacted lists, lists of different numbers. -/
namespace Go.Proofs.Ytfbbnbpobojboaa

theorem asc_ext : ∀ (a b : List Int), a.Pairwise (· < ·) → b.Pairwise (· < ·) → (∀ x, x ∈ a ↔ x ∈ b) → a = b := by
  intro a
  induction a with
  | nil =>
    intro b _ _ h
    cases b with
    | nil => rfl
    | cons y b => exact absurd ((h y).2 (List.mem_cons_self ..)) (by simp)
  | cons x a ih =>
    intro b ha hb h
    cases b with
    | nil => exact absurd ((h x).1 (List.mem_cons_self ..)) (by simp)
    | cons y b =>
      rw [List.pairwise_cons] at ha hb
      have hxy : x = y := by
        have h1 := (h x).1 (List.mem_cons_self ..)
        have h2 := (h y).2 (List.mem_cons_self ..)
        rcases List.mem_cons.1 h1 with h1 | h1
        · exact h1
        · rcases List.mem_cons.1 h2 with h2 | h2
          · exact h2.symm
          · have := hb.1 x h1; have := ha.1 y h2; omega
      subst hxy
      rw [ih b ha.2 hb.2]
      intro z
      constructor
      · intro hz
        rcases List.mem_cons.1 ((h z).1 (List.mem_cons_of_mem _ hz)) with h1 | h1
        · subst h1; have := ha.1 z hz; omega
        · exact h1
      · intro hz
        rcases List.mem_cons.1 ((h z).2 (List.mem_cons_of_mem _ hz)) with h1 | h1
        · subst h1; have := hb.1 z hz; omega
        · exact h1

theorem compact_asc (zs : List Int) (hs : zs.Pairwise (· ≤ ·)) : (Lib.compact zs).Pairwise (· < ·) ∧ ∀ x, x ∈ Lib.compact zs ↔ x ∈ zs := by
  have key : ∀ m, m ≤ zs.length → (Lib.compactUpTo zs.toArray m).Pairwise (· < ·) ∧ (∀ x, x ∈ Lib.compactUpTo zs.toArray m ↔ x ∈ zs.take m) := by
    intro m
    induction m with
    | zero => intro _; simp [Lib.compactUpTo]
    | succ m ih =>
      intro hm
      obtain ⟨h1, h2⟩ := ih (by omega)
      have hlt : m < zs.length := by omega
      have hd : zs.toArray[m]! = zs[m] := by simp [hlt]
      rw [Lib.compactUpTo_succ, List.take_succ_eq_append_getElem hlt, hd]
      have hle : ∀ x, x ∈ zs.take m → x ≤ zs[m] := by
        intro x hx
        rw [← List.take_append_drop m zs, List.pairwise_append] at hs
        exact hs.2.2 x hx _ (by rw [List.drop_eq_getElem_cons hlt]; exact List.mem_cons_self ..)
      by_cases hk : Lib.keeps zs.toArray m = true
      · rw [if_pos hk]
        constructor
        · rw [List.pairwise_append]
          refine ⟨h1, by simp, ?_⟩
          intro x hx y hy
          simp at hy; subst hy
          have hx' := (h2 x).1 hx
          have h3 := hle x hx'
          rcases Int.lt_or_le x zs[m] with h | h
          · exact h
          · exfalso
            have hxe : x = zs[m] := by omega
            simp only [Lib.keeps, decide_eq_true_eq] at hk
            rcases hk with hk | hk
            · subst hk; simp at hx'
            · have hm1 : m - 1 < zs.length := by omega
              have hmpos : 0 < m := by
                rcases Nat.eq_zero_or_pos m with h0 | h0
                · subst h0; simp at hx'
                · exact h0
              have e1 : zs.toArray[m-1]! = zs[m-1] := by simp [hm1]
              rw [hd, e1] at hk
              apply hk
              have hle2 : zs[m-1] ≤ zs[m] := List.pairwise_iff_getElem.1 hs (m-1) m hm1 hlt (by omega)
              obtain ⟨i, hi, rfl⟩ := List.mem_take_iff_getElem.1 hx'
              have : zs[i] ≤ zs[m-1] := by
                rcases Nat.lt_or_ge i (m-1) with h' | h'
                · exact List.pairwise_iff_getElem.1 hs i (m-1) (by omega) hm1 h'
                · have : i = m - 1 := by omega
                  subst this; exact Int.le_refl _
              omega
        · intro x
          rw [List.mem_append, List.mem_append, h2]
      · rw [if_neg hk, List.append_nil]
        refine ⟨h1, fun x => ?_⟩
        rw [h2, List.mem_append]
        constructor
        · exact fun h => .inl h
        · rintro (h | h)
          · exact h
          · simp at h; subst h
            simp only [Lib.keeps, decide_eq_true_eq, not_or, Classical.not_not] at hk
            have hm1 : m - 1 < zs.length := by omega
            have e1 : zs.toArray[m-1]! = zs[m-1] := by simp [hm1]
            rw [hd, e1] at hk
            rw [hk.2]
            exact List.mem_take_iff_getElem.2 ⟨m-1, by omega, rfl⟩
  have := key zs.length (Nat.le_refl _)
  rw [List.take_length] at this
  exact this

def sortL (xs : List Int) : List Int := xs.mergeSort fun x y => decide (x ≤ y)
theorem sortL_len (xs : List Int) : (sortL xs).length = xs.length := List.length_mergeSort _
theorem sortL_mem (xs : List Int) (x : Int) : x ∈ sortL xs ↔ x ∈ xs := (List.mergeSort_perm _ _).mem_iff
theorem sortL_asc (xs : List Int) : (sortL xs).Pairwise (· ≤ ·) := by
  have := List.pairwise_mergeSort (le := fun x y : Int => decide (x ≤ y)) (by intro a b c; simp; omega) (by intro a b; simp; omega) xs
  exact this.imp (by simp)

theorem dedup_spec (xs : List Int) : (Lib.compact (sortL xs)).Pairwise (· < ·) ∧ ∀ x, x ∈ Lib.compact (sortL xs) ↔ x ∈ xs := by
  obtain ⟨h1, h2⟩ := compact_asc (sortL xs) (sortL_asc xs)
  exact ⟨h1, fun x => (h2 x).trans (sortL_mem xs x)⟩

end Go.Proofs.Ytfbbnbpobojboaa

/- The library's sort, compact, contains, index and equal on lists of ints, in the words of these proofs. -/
namespace Go.Proofs.Ytfbbnbpobojboaa
open Go.RowKit Go.Sort
set_option linter.unusedVariables false
set_option maxRecDepth 100000


theorem sort_c (xs : List Int) (v : Value) (w : World) (base : Nat) (h : OwnZ w base v xs) (hn : xs.length ≤ 4194304) (hbz : base ≤ w.heap.size) :
    Calls Try.prog 111 #[v] w fun e w' => e = .returned (.tuple #[]) ∧ OwnZ w' base v (sortL xs) ∧ Below base w w' := by
  rcases h with ⟨rfl, a, cap, rfl, hc, ha⟩ | h
  · refine (Try.slices_Sort_int_none a cap w).mono ?_
    rintro e w' ⟨rfl, rfl⟩
    exact ⟨rfl, .inl ⟨by simp [sortL], a, cap, rfl, hc, ha⟩, Below.refl _ _⟩
  · rcases h.2 with ⟨rfl, h0⟩ | ⟨g, cap, cur, rfl, hb, hg, hnc, hcm, hcs, ht⟩
    · obtain rfl : xs = [] := List.eq_nil_of_length_eq_zero h0
      refine (Try.slices_Sort_int_none none 0 w).mono ?_
      rintro e w' ⟨rfl, rfl⟩
      exact ⟨rfl, .inl ⟨by simp [sortL], none, 0, rfl, by simp, fun _ => rfl⟩, Below.refl _ _⟩
    · refine (Try.slices_Sort_int g 0 cap xs w (holds_of_blockI hg (by simpa using ht)) (Array.getElem?_eq_some_iff.1 hg).1 (by omega)).mono ?_
      rintro e w' ⟨rfl, n, os, rfl⟩
      refine ⟨rfl, .inr ?_, (Below.refl base w).grown (grownBy_sortedI _) hbz (fun k hk => by cases hk; exact hb)⟩
      unfold OwnI
      rw [sortL_len]
      exact ownsRow_sortedI (ts := sortL xs) (sortL_len xs) hb hg hnc hcm hcs

def hasB (xs : List Int) (x : Int) : Bool := xs.contains x
theorem contains_c (xs : List Int) (v : Value) (x : Int) (w : World) (lo : Nat) (h : Ints w lo v xs) :
    Calls Try.prog 142 #[v, .int .i64 x] w fun e w' => e = .returned (.bool (hasB xs x)) ∧ w = w' := by
  obtain ⟨a, cap, rfl, h1, h2, ⟨h3, h3'⟩, h4⟩ := h
  by_cases he : xs = []
  · subst he
    refine (Try.slices_Contains_int_empty a cap x w).mono ?_
    rintro e w' ⟨rfl, rfl⟩
    exact ⟨rfl, rfl⟩
  · have hpos : 0 < xs.length := by cases xs <;> simp_all
    obtain ⟨b, off, rfl, _⟩ := h4 0 hpos
    refine (Try.slices_Contains_int b off xs.length cap xs x w (Nat.le_refl _) (by omega) (fun j hj => by obtain ⟨b', off', he, _, hc, _⟩ := h4 j hj; cases he; exact hc)).mono ?_
    rintro e w' ⟨rfl, rfl⟩
    exact ⟨by rw [List.take_length]; rfl, rfl⟩

theorem compact_len_le (xs : List Int) : (Lib.compact xs).length ≤ xs.length := by
  unfold Lib.compact Lib.compactUpTo
  rw [List.length_map]
  exact Nat.le_trans (List.length_filter_le _ _) (by simp)

theorem compact_c (xs : List Int) (v : Value) (w : World) (base : Nat) (h : OwnZ w base v xs) (hn : xs.length ≤ 4194304) (hbz : base ≤ w.heap.size) :
    Calls Try.prog 162 #[v] w fun e w' => ∃ v', e = .returned v' ∧ OwnZ w' base v' (Lib.compact xs) ∧ v'.ownBlock = v.ownBlock ∧ Below base w w' := by
  rcases h with ⟨rfl, a, cap, rfl, hc, ha⟩ | h
  · refine (Try.slices_Compact_int_empty a cap w).mono ?_
    rintro e w' ⟨rfl, rfl⟩
    exact ⟨_, rfl, .inl ⟨rfl, a, cap, rfl, hc, ha⟩, rfl, Below.refl _ _⟩
  · rcases h.2 with ⟨rfl, h0⟩ | ⟨g, cap, cur, rfl, hb, hg, hnc, hcm, hcs, ht⟩
    · obtain rfl : xs = [] := List.eq_nil_of_length_eq_zero h0
      refine (Try.slices_Compact_int_empty none 0 w).mono ?_
      rintro e w' ⟨rfl, rfl⟩
      exact ⟨_, rfl, .inl ⟨rfl, none, 0, rfl, by simp, fun _ => rfl⟩, rfl, Below.refl _ _⟩
    · refine (Try.slices_Compact_int g 0 cap xs w (holds_of_blockI hg (by simpa using ht)) (by omega) hnc).mono ?_
      rintro e w' ⟨rfl, q, rfl⟩
      have hl := compact_len_le xs
      have hlen : (Lib.compact xs ++ List.replicate (xs.length - (Lib.compact xs).length) 0).length = xs.length := by simp; omega
      have hgr := grownBy_sortedI (w := w) (g := g) (n := q) (os := #[]) (Lib.compact xs ++ List.replicate (xs.length - (Lib.compact xs).length) 0).toArray
      have hh := heap_sortedI (n := q) (os := #[]) (Lib.compact xs ++ List.replicate (xs.length - (Lib.compact xs).length) 0).toArray hg
      rw [grow_empty] at hgr hh
      refine ⟨_, rfl, .inr ⟨by simp, .inr ⟨g, cap, _, rfl, hb, hh, by omega, hcm, by simpa [putCells] using hcs, ?_⟩⟩, rfl, (Below.refl base w).grown hgr hbz (fun k hk => by cases hk; exact hb)⟩
      have := take_putCellsI cur (Lib.compact xs ++ List.replicate (xs.length - (Lib.compact xs).length) 0) (by rw [hlen]; omega)
      rw [hlen] at this
      have h2 := congrArg (List.take (Lib.compact xs).length) this
      rw [List.take_take, Nat.min_eq_left hl] at h2
      rw [Nat.mul_one, h2]
      simp

end Go.Proofs.Ytfbbnbpobojboaa

/- Walks: the cells of a view, told once; what two views have; places in a list; lists of different numbers. -/
namespace Go.Proofs.Ytfbbnbpobojboaa
open Go.RowKit
set_option linter.unusedVariables false
set_option maxRecDepth 100000

def placeL (xs : List Int) (n : Int) : Int := findI (fun x => x == n) xs

set_option maxHeartbeats 400000 in
theorem placeIn_c (xs : List Int) (v : Value) (n : Int) (w : World) (lo : Nat) (hv : Ints w lo v xs) :
    Calls Try.prog 139 #[v, .int .i64 n] w fun e w' => e = .returned (.int .i64 (placeL xs n)) ∧ w = w' := by
  obtain ⟨a, cap, rfl, hlc, hcm, ⟨hlen, _⟩, hc⟩ := hv
  go_enter Try.func139, Try.ntmps139
  go_wp2_with fail
  go_loop [5] (fun i => ∃ k : Nat, k ≤ xs.length ∧ i = .int .i64 k ∧ (xs.take k).any (fun x => x == n) = false) (fun i => xs.length - (intOf i).toNat)
  case atStart => exact ⟨0, Nat.zero_le _, rfl, rfl⟩
  case round =>
    obtain ⟨k, hk, rfl, hall0⟩ := hrel
    have hall := Lib.hid hall0
    clear hall0
    by_cases hlt : k < xs.length
    · obtain ⟨b, off, rfl, _, hcell, _⟩ := hc k hlt
      clear hc
      cases hp : (xs[k] == n)
      · go_wp2_with fail
        go_round
        case rel => exact ⟨k+1, by omega, by go_num, any_take _ xs k hlt hall.out hp⟩
        case measure => simp [intOf]; omega
      · have hs := Lib.hid (findI_yes (fun x => x == n) xs k hlt hall.out hp)
        go_wp2_with fail
        go_ret
        exact ⟨by unfold placeL; rw [hs.out]; rfl, rfl⟩
    · obtain rfl : k = xs.length := by omega
      go_wp2_with fail
      go_ret
      exact ⟨by unfold placeL; rw [findI_no _ xs (by simpa using hall.out)]; rfl, rfl⟩

theorem placeL_ge (xs : List Int) (n : Int) : decide (0 ≤ placeL xs n) = xs.contains n := by
  unfold placeL; rw [findI_ge, List.contains_eq_any_beq]
  congr 1; funext x; rw [Bool.eq_iff_iff]; simp; exact eq_comm

end Go.Proofs.Ytfbbnbpobojboaa

/- Walks: one to one views, what two views have, and the program's exported questions about them. -/
namespace Go.Proofs.Ytfbbnbpobojboaa
open Go.RowKit
set_option linter.unusedVariables false
set_option maxRecDepth 100000

end Go.Proofs.Ytfbbnbpobojboaa

/- Plain laws: the program's words on cells are the reference's. -/
namespace Go.Proofs.Ytfbbnbpobojboaa
open Go.RowKit

end Go.Proofs.Ytfbbnbpobojboaa

/- Plain laws on ranges of ints: the numbers of a range, normal forms, progressions. -/
namespace Go.Proofs.Ytfbbnbpobojboaa
set_option linter.unusedVariables false

/-- sets of numbers that go on by their own differences -/
def ApS (S : Int → Prop) : Prop := ∀ x y z u v, S x → S y → S z → S u → S v → x ≤ z + (v - u) → z + (v - u) ≤ y → S (z + (v - u))
theorem ApS.and {S T : Int → Prop} (h : ApS S) (k : ApS T) : ApS fun x => S x ∧ T x :=
  fun x y z u v hx hy hz hu hv h1 h2 => ⟨h x y z u v hx.1 hy.1 hz.1 hu.1 hv.1 h1 h2, k x y z u v hx.2 hy.2 hz.2 hu.2 hv.2 h1 h2⟩
theorem ApS.congr {S T : Int → Prop} (h : ApS S) (k : ∀ x, S x ↔ T x) : ApS T :=
  fun x y z u v hx hy hz hu hv h1 h2 => (k _).1 (h x y z u v ((k _).2 hx) ((k _).2 hy) ((k _).2 hz) ((k _).2 hu) ((k _).2 hv) h1 h2)
end Go.Proofs.Ytfbbnbpobojboaa

/- Plain laws: repeated cells, gaps between cells, later and earlier cells. -/
namespace Go.Proofs.Ytfbbnbpobojboaa
open Go.RowKit
set_option linter.unusedVariables false

end Go.Proofs.Ytfbbnbpobojboaa

/- Words for loops that append to a row of their own beside a list that they read. No condition. -/
namespace Go.Proofs.Ytfbbnbpobojboaa
open Go.RowKit
set_option linter.unusedVariables false

theorem Ext.frz {w w' : World} (h : Ext w w') {b o : Nat} {f : Bool} (hb : b < w.heap.size) (hf : w.frozen? ⟨b, o, none⟩ = f) : w'.frozen? ⟨b, o, none⟩ = f := (h.frule b o hb).trans hf

/-- the row v of the call's own, blocks from B on, reads ys; the list u, which is only read, lies apart from it -/
structure Beside (B : Nat) (w0 wr : World) (v : Value) (ys : List Int) (u : Value) (xs : List Int) : Prop where
  own : OwnI wr B v ys
  bel : Below B w0 wr
  ints : Ints wr 0 u xs
  size : B ≤ wr.heap.size
  sep : xs ≠ [] → ∀ b off n c, u = .slice (some ⟨b, off, none⟩) n c → v.ownBlock ≠ some b

theorem Beside.ext {B : Nat} {w0 wr w3 : World} {v u : Value} {ys xs : List Int} (h : Beside B w0 wr v ys u xs) (hx : Ext wr w3) : Beside B w0 w3 v ys u xs :=
  ⟨h.own.ext hx, Below.trans h.bel (Below.mono hx h.size), h.ints.ext hx, Nat.le_trans h.size hx.size, h.sep⟩

theorem Ints.drop {w : World} {lo : Nat} {a : Option Addr} {n c : Nat} {xs : List Int} (h : Ints w lo (.slice a n c) xs) (k : Nat) (hk : k ≤ n) : Ints w lo (.slice (if c = k then a else a.map (·.add k)) (n - k) (c - k)) (xs.drop k) := by
  obtain ⟨a', cap, hv, h1, h2, ⟨h3, h3'⟩, h4⟩ := h
  cases hv
  have hl : (xs.drop k).length = xs.length - k := by simp
  refine ⟨_, c - k, by rw [hl], by omega, by omega, ⟨by omega, fun e => ?_⟩, fun i hi => ?_⟩
  · by_cases hc : c = k
    · omega
    · rw [if_neg hc] at e
      cases a with
      | none => have := h3' rfl; omega
      | some ad => simp at e
  · obtain ⟨b, off, rfl, hb, hc, hf⟩ := h4 (k + i) (by omega)
    rw [if_neg (by omega)]
    have e : (⟨b, off, none⟩ : Addr).add k = ⟨b, off + k, none⟩ := by unfold Addr.add; split <;> simp_all
    refine ⟨b, off + k, by rw [Option.map_some, e], hb, ?_, by rw [Nat.add_assoc]; exact hf⟩
    rw [Nat.add_assoc, hc]
    simp [show k + i < xs.length by omega]

theorem PInts.of {w w' : World} {lo base : Nat} {xs : List Int} {v : Value} (h : OwnZ w' base v xs) (hi : Ints w' lo v xs) (hb : w.heap.size ≤ base) (hx : Ext w w') : PInts w xs (.returned v) w' := PInts.mkz h hb hi.len hx

theorem OwnI.made (w : World) (base n : Nat) (hb : base ≤ w.heap.size) (hn : n ≤ 4194304) : OwnI (w.alloc (.cells (madeCells #[Value.int .i64 0] n) 3)) base (.slice (some ⟨w.heap.size, 0, none⟩) n n) (List.replicate n 0) := by
  have := World.ownsRow_lit (e := 3) (size := 1) w (madeCells #[Value.int .i64 0] n) n hb (by unfold maxLen; omega) (by simp [madeCells])
  unfold OwnI
  rw [made_ints] at this
  simpa using this

end Go.Proofs.Ytfbbnbpobojboaa

/- Walks: WayOf of the program and of the reference. -/
namespace Go.Proofs.Ytfbbnbpobojboaa
open Go.RowKit
set_option linter.unusedVariables false
set_option maxRecDepth 100000

end Go.Proofs.Ytfbbnbpobojboaa

/- Walks: values that are loaded from and stored in memories, of the program and of the reference. -/
namespace Go.Proofs.Ytfbbnbpobojboaa
open Go.RowKit
set_option linter.unusedVariables false
set_option maxRecDepth 100000

/-- a list after the first k stores -/
def putUp (mem ix vs : List Int) (k : Nat) : List Int := (List.range k).foldl (fun m i => m.set (ix.getD i 0).toNat (vs.getD i 0)) mem
theorem putUp_succ (mem ix vs : List Int) (k : Nat) : putUp mem ix vs (k+1) = (putUp mem ix vs k).set (ix.getD k 0).toNat (vs.getD k 0) := by
  unfold putUp; rw [List.range_succ, List.foldl_append]; rfl
theorem putUp_len (mem ix vs : List Int) (k : Nat) : (putUp mem ix vs k).length = mem.length := by
  induction k with
  | zero => rfl
  | succ k ih => rw [putUp_succ, List.length_set, ih]
def putL (mem ix vs : List Int) : List Int := putUp mem ix vs ix.length
theorem OwnI.row {w : World} {base : Nat} {v : Value} {xs : List Int} (h : OwnI w base v xs) (hn : xs ≠ []) : ∃ g cap, v = .slice (some ⟨g, 0, none⟩) xs.length cap ∧ base ≤ g ∧ g < w.heap.size := by
  rcases h.2 with ⟨rfl, h0⟩ | ⟨g, cap, cur, rfl, hb, hg, _⟩
  · exact absurd (List.eq_nil_of_length_eq_zero h0) hn
  · exact ⟨g, cap, rfl, hb, (Array.getElem?_eq_some_iff.1 hg).1⟩

theorem OwnZ.ofNe {w : World} {base : Nat} {v : Value} {xs : List Int} (h : OwnZ w base v xs) (hn : xs ≠ []) : OwnI w base v xs := h.elim (fun h => absurd h.1 hn) id

end Go.Proofs.Ytfbbnbpobojboaa

/- Words for memory: rows of records, told by cells. No condition. -/
namespace Go.Proofs.Ytfbbnbpobojboaa
open Go.RowKit
set_option linter.unusedVariables false
set_option maxRecDepth 100000

section
variable {w w' : World} {base E sz : Nat} {v : Value} {L : List (List Value)}
theorem OwnC.blkM (h : OwnC w base E sz v L) (g : Nat) (hg : v.ownBlock = some g) : base ≤ g ∧ g < w.heap.size := World.ownsRow.lt h.1 g hg
theorem OwnC.chgM {g n c l hi : Nat} (h : OwnC w base E sz (.slice (some ⟨g, 0, none⟩) n c) L) (k : Chg l hi w w') (hg : g < l ∨ hi ≤ g) : OwnC w' base E sz (.slice (some ⟨g, 0, none⟩) n c) L := by
  refine ⟨⟨h.1.1, ?_⟩, h.2⟩
  rcases h.1.2 with h2 | ⟨g', cap, cur, hv, hb, hh, r⟩
  · exact .inl h2
  · refine .inr ⟨g', cap, cur, hv, hb, (k.block g' (Array.getElem?_eq_some_iff.1 hh).1 ?_).trans hh, r⟩
    have : some g = some g' := by have := congrArg Value.ownBlock hv; exact this
    cases this
    exact hg
theorem OwnC.setM {g n c : Nat} (h : OwnC w base E sz (.slice (some ⟨g, 0, none⟩) n c) L) (hn : n = L.length) (i j : Nat) (hi : i < L.length) (hj : j < sz) (x : Value) :
    OwnC (w.setCell ⟨g, i * sz + j, none⟩ x) base E sz (.slice (some ⟨g, 0, none⟩) n c) (L.set i ((L[i]).set j x)) := by subst hn; exact h.set i j hi hj x
theorem OwnC.cellM {g n c : Nat} (h : OwnC w base E sz (.slice (some ⟨g, 0, none⟩) n c) L) (hn : n = L.length) (i j : Nat) (hi : i < L.length) (hj : j < sz) : w.cell? ⟨g, i * sz + j, none⟩ = (L[i])[j]? ∧ w.frozen? ⟨g, i * sz + j, none⟩ = false := by subst hn; exact h.cell i j hi hj
end
theorem made_flatM (zs : List Value) (sz : Nat) (hz : zs.length = sz) (hsz : 0 < sz) (n : Nat) : (madeCells zs.toArray (n * sz)).toList = (List.replicate n zs).flatten := by
  have hall : ∀ c ∈ List.replicate n zs, c.length = sz := fun c hc => by rw [List.eq_of_mem_replicate hc]; exact hz
  refine List.ext_getElem (by rw [flat_len hall]; simp [size_madeCells]) fun i h1 h2 => ?_
  have h : i < n * sz := by simpa [size_madeCells] using h1
  have e : i / sz * sz + i % sz = i := by rw [Nat.mul_comm]; exact Nat.div_add_mod i sz
  have h3 : i / sz < n := Nat.div_lt_of_lt_mul (by rw [Nat.mul_comm]; exact h)
  have h4 : i % sz < sz := Nat.mod_lt _ hsz
  have k := flat_get hall (i / sz) (i % sz) (by simpa using h3) h4
  rw [e, List.getElem?_eq_getElem h2, List.getElem_replicate, List.getElem?_eq_getElem (by omega)] at k
  rw [Option.some.inj k]
  simp [madeCells, hz]
  rw [List.getElem?_eq_getElem (by omega)]; rfl
/-- what is left of the size that a law allows -/
def PLeftM (need : Nat) (left : Int) (w : World) (e : Ending) (w' : World) : Prop := ∃ L : Int, e = .returned (.int .i64 L) ∧ -1 ≤ L ∧ L ≤ 1048576 ∧ (0 ≤ L → (need : Int) + L = left) ∧ Ext w w'
end Go.Proofs.Ytfbbnbpobojboaa

/- Plain laws: products of extents, ranks of indices, other shapes of the same cells. -/
namespace Go.Proofs.Ytfbbnbpobojboaa
open Go.RowKit
set_option linter.unusedVariables false

/-- a few extents, none of them great -/
def Small (xs : List Int) : Prop := xs.length ≤ 4 ∧ ∀ e ∈ xs, 0 ≤ e ∧ e ≤ 60
theorem Small.of {xs : List Int} (h : shapeB xs = true) : Small xs := ⟨(shapeB_in h).1, (shapeB_in h).2.1⟩
theorem Small.drop {xs : List Int} (h : Small xs) (k : Nat) : Small (xs.drop k) := ⟨by have := h.1; simp; omega, fun e he => h.2 e (List.mem_of_mem_drop he)⟩
theorem Small.take {xs : List Int} (h : Small xs) (k : Nat) : Small (xs.take k) := ⟨by have := h.1; simp; omega, fun e he => h.2 e (List.mem_of_mem_take he)⟩
end Go.Proofs.Ytfbbnbpobojboaa

/- Plain laws on views: indices in order, the cells of indices, ranks. -/
namespace Go.Proofs.Ytfbbnbpobojboaa
open Go.RowKit
set_option linter.unusedVariables false
set_option maxRecDepth 100000

/-- is it an index of a shape? -/
def IxOf : List Int → List Int → Prop
  | [], [] => True
  | e :: s, x :: r => (0 ≤ x ∧ x < e) ∧ IxOf s r
  | _, _ => False
theorem IxOf.len : ∀ {s r : List Int}, IxOf s r → r.length = s.length
  | [], [], _ => rfl
  | e :: s, x :: r, h => by simp [IxOf.len h.2]
  | [], x :: r, h => h.elim
  | e :: s, [], h => h.elim
end Go.Proofs.Ytfbbnbpobojboaa

/- Walks: SwapViews of the program and of the reference. -/
namespace Go.Proofs.Ytfbbnbpobojboaa
open Go.RowKit
set_option linter.unusedVariables false
set_option maxRecDepth 100000

/-- a call hands back a new list and whether it could be made -/
def PIntsB (w : World) (xs : List Int) (b : Bool) (e : Ending) (w' : World) : Prop := ∃ v, e = .returned (.tuple #[v, .bool b]) ∧ Ints w' w.heap.size v xs ∧ OwnZ w' w.heap.size v xs ∧ Ext w w'
theorem PIntsB.no {w w' : World} (h : Ext w w') : PIntsB w [] false (.returned (.tuple #[.slice none 0 0, .bool false])) w' :=
  ⟨_, rfl, Ints.nil _ _ _ _ (by simp) (fun _ => rfl), .inl ⟨rfl, none, 0, rfl, by simp, fun _ => rfl⟩, h⟩
theorem PIntsB.yes {w w' : World} {lo base : Nat} {xs : List Int} {v : Value} (h : OwnZ w' base v xs) (hi : Ints w' lo v xs) (hb : w.heap.size ≤ base) (hx : Ext w w') : PIntsB w xs true (.returned (.tuple #[v, .bool true])) w' :=
  ⟨v, rfl, (h.lower hb).ints hi.len, h.lower hb, hx⟩
end Go.Proofs.Ytfbbnbpobojboaa

/- Walks: CellsOf and OverlapOf of the program and of the reference. -/
namespace Go.Proofs.Ytfbbnbpobojboaa
open Go.RowKit
set_option linter.unusedVariables false
set_option maxRecDepth 100000

end Go.Proofs.Ytfbbnbpobojboaa

/- Walks: normal forms of ranges, LineOf of the program and of the reference, comparison of ranges. -/
namespace Go.Proofs.Ytfbbnbpobojboaa
open Go.RowKit
set_option linter.unusedVariables false
set_option maxRecDepth 100000

end Go.Proofs.Ytfbbnbpobojboaa

/- Walks: valid ranges and the numbers of a range, of the program and of the reference. -/
namespace Go.Proofs.Ytfbbnbpobojboaa
open Go.RowKit
set_option linter.unusedVariables false
set_option maxRecDepth 100000

end Go.Proofs.Ytfbbnbpobojboaa

/- Walks towards SplitDim: dimensions, ranks. -/
namespace Go.Proofs.Ytfbbnbpobojboaa
open Go.RowKit
set_option linter.unusedVariables false
set_option maxRecDepth 100000

end Go.Proofs.Ytfbbnbpobojboaa

/- A copy of a view by the reference. -/
namespace Go.Proofs.Ytfbbnbpobojboaa
open Go.RowKit
set_option linter.unusedVariables false
set_option maxRecDepth 100000

end Go.Proofs.Ytfbbnbpobojboaa

/- Walks: a view that the reference hands back, with a bool. -/
namespace Go.Proofs.Ytfbbnbpobojboaa
open Go.RowKit
set_option linter.unusedVariables false
set_option maxRecDepth 100000

/-- a call hands back a new view and a bool -/
def PViewB (w : World) (base : Int) (shape strides : List Int) (b : Bool) (e : Ending) (w' : World) : Prop :=
  ∃ sh st, e = .returned (.tuple #[.agg #[.int .i64 base, sh, st], .bool b]) ∧ Ints w' w.heap.size sh shape ∧ Ints w' w.heap.size st strides ∧ OwnZ w' w.heap.size sh shape ∧ OwnZ w' w.heap.size st strides ∧
    (shape ≠ [] → strides ≠ [] → sh.ownBlock ≠ st.ownBlock) ∧ Ext w w'
theorem PViewB.no {w w' : World} (h : Ext w w') : PViewB w 0 [] [] false (.returned (.tuple #[.agg #[.int .i64 0, .slice none 0 0, .slice none 0 0], .bool false])) w' :=
  ⟨_, _, rfl, Ints.nil _ _ _ _ (by simp) (fun _ => rfl), Ints.nil _ _ _ _ (by simp) (fun _ => rfl), .inl ⟨rfl, none, 0, rfl, by simp, fun _ => rfl⟩, .inl ⟨rfl, none, 0, rfl, by simp, fun _ => rfl⟩, fun h => absurd rfl h, h⟩

theorem PViewB.put {w w1 w2 : World} {base : Int} {shape strides : List Int} {v1 v2 : Value} {a b c : Addr} {u v x : Value} {g : Nat} (l1 : shape.length ≤ 4194304) (l2 : strides.length ≤ 4194304) (o1 : OwnZ w2 w1.heap.size v1 shape) (o2 : OwnZ w2 w1.heap.size v2 strides)
    (od : shape ≠ [] → strides ≠ [] → v1.ownBlock ≠ v2.ownBlock) (hz : w.heap.size ≤ w1.heap.size ∧ g < w1.heap.size) (ha : a.block = g) (hb : b.block = g) (hc : c.block = g) (hx : Ext w (((w2.setCell a u).setCell b v).setCell c x)) :
    PViewB w base shape strides true (.returned (.tuple #[.agg #[.int .i64 base, v1, v2], .bool true])) (((w2.setCell a u).setCell b v).setCell c x) := by
  have o1' := ((o1.setCell_below (a := a) (by omega) u).setCell_below (a := b) (by omega) v).setCell_below (a := c) (by omega) x
  have o2' := ((o2.setCell_below (a := a) (by omega) u).setCell_below (a := b) (by omega) v).setCell_below (a := c) (by omega) x
  exact ⟨v1, v2, rfl, (o1'.lower hz.1).ints l1, (o2'.lower hz.1).ints l2, o1'.lower hz.1, o2'.lower hz.1, od, hx⟩
end Go.Proofs.Ytfbbnbpobojboaa

/- Walks: strides by rows and numbers in order, of the reference; orders of dimensions. -/
namespace Go.Proofs.Ytfbbnbpobojboaa
open Go.RowKit
set_option linter.unusedVariables false
set_option maxRecDepth 100000

end Go.Proofs.Ytfbbnbpobojboaa

/- Walks: new views of the reference, tidy views. -/
namespace Go.Proofs.Ytfbbnbpobojboaa
open Go.RowKit
set_option linter.unusedVariables false
set_option maxRecDepth 100000

theorem PView.no {w w' : World} (h : Ext w w') : PView w 0 [] [] (.returned (.agg #[.int .i64 0, .slice none 0 0, .slice none 0 0])) w' :=
  ⟨_, _, rfl, Ints.nil _ _ _ _ (by simp) (fun _ => rfl), Ints.nil _ _ _ _ (by simp) (fun _ => rfl), .inl ⟨rfl, none, 0, rfl, by simp, fun _ => rfl⟩, .inl ⟨rfl, none, 0, rfl, by simp, fun _ => rfl⟩, fun h => absurd rfl h, h⟩
theorem PView.two {w w' : World} {base : Int} {shape strides : List Int} {v1 v2 : Value} {b1 b2 m : Nat} (o1 : OwnZ w' b1 v1 shape) (o2 : OwnZ w' b2 v2 strides) (h1 : w.heap.size ≤ b1) (h2 : w.heap.size ≤ b2)
    (hd : (shape ≠ [] → ∀ g, v1.ownBlock = some g → g < m) ∧ m ≤ b2 ∨ (strides ≠ [] → ∀ g, v2.ownBlock = some g → g < m) ∧ m ≤ b1) (l1 : shape.length ≤ 4194304) (l2 : strides.length ≤ 4194304) (hx : Ext w w') : PView w base shape strides (.returned (.agg #[.int .i64 base, v1, v2])) w' := by
  refine ⟨v1, v2, rfl, (o1.lower h1).ints l1, (o2.lower h2).ints l2, o1.lower h1, o2.lower h2, fun n1 n2 => ?_, hx⟩
  obtain ⟨g1, e1, t1, _⟩ := o1.lt n1
  obtain ⟨g2, e2, t2, _⟩ := o2.lt n2
  rw [e1, e2]
  rcases hd with ⟨hd, hm⟩ | ⟨hd, hm⟩
  · have := hd n1 g1 e1; simp; omega
  · have := hd n2 g2 e2; simp; omega

theorem Chg.three {lo : Nat} (w : World) (x y z : Value) : Chg lo (lo + 1) w (((w.setCell ⟨lo, 0, none⟩ x).setCell ⟨lo, 1, none⟩ y).setCell ⟨lo, 2, none⟩ z) :=
  (((Chg.refl lo (lo + 1) w).setCell (p := ⟨lo, 0, none⟩) (Nat.le_refl _) (Nat.lt_succ_self _) _).setCell (p := ⟨lo, 1, none⟩) (Nat.le_refl _) (Nat.lt_succ_self _) _).setCell (p := ⟨lo, 2, none⟩) (Nat.le_refl _) (Nat.lt_succ_self _) _

end Go.Proofs.Ytfbbnbpobojboaa

/- Walks: tidy views, a number put into a list (of the reference). -/
namespace Go.Proofs.Ytfbbnbpobojboaa
open Go.RowKit
set_option linter.unusedVariables false
set_option maxRecDepth 100000

end Go.Proofs.Ytfbbnbpobojboaa

/- Plain laws on views: the cells of all indices, views that are drawn out of views. -/
namespace Go.Proofs.Ytfbbnbpobojboaa
open Go.RowKit
set_option linter.unusedVariables false
set_option maxRecDepth 100000

end Go.Proofs.Ytfbbnbpobojboaa

/- Plain laws on views: the cell at a rank, indices one step apart. -/
namespace Go.Proofs.Ytfbbnbpobojboaa
open Go.RowKit
set_option linter.unusedVariables false
set_option maxRecDepth 100000

end Go.Proofs.Ytfbbnbpobojboaa

/- Plain laws on views: dimensions as pairs, in any order; what makes a view one, by its least and greatest cell. -/
namespace Go.Proofs.Ytfbbnbpobojboaa
open Go.RowKit
set_option linter.unusedVariables false
set_option maxRecDepth 100000

end Go.Proofs.Ytfbbnbpobojboaa

/- Walks: MeetRanges of the program and of the reference. -/
namespace Go.Proofs.Ytfbbnbpobojboaa
open Go.RowKit
set_option linter.unusedVariables false
set_option maxRecDepth 100000

end Go.Proofs.Ytfbbnbpobojboaa

/- Walks: what is asked of ranges: lengths, numbers, places, covers. -/
namespace Go.Proofs.Ytfbbnbpobojboaa
open Go.RowKit
set_option linter.unusedVariables false
set_option maxRecDepth 100000

end Go.Proofs.Ytfbbnbpobojboaa

/- Walks: slices of the reference: valid ones, ends, indices, and what a slice takes of a range. -/
namespace Go.Proofs.Ytfbbnbpobojboaa
open Go.RowKit
set_option linter.unusedVariables false
set_option maxRecDepth 100000

end Go.Proofs.Ytfbbnbpobojboaa

/- Plain laws: numbers in a row and their normal range; a view of some indices of a dimension. -/
namespace Go.Proofs.Ytfbbnbpobojboaa
open Go.RowKit
set_option linter.unusedVariables false
set_option maxRecDepth 100000

theorem getD_mem {s : List Int} {d : Nat} (hd : d < s.length) : s.getD d 0 ∈ s := by
  have : s.getD d 0 = s[d] := by simp [hd]
  rw [this]; exact List.getElem_mem hd

/-- where an element lies -/
theorem Ints.at {w : World} {lo : Nat} {a : Option Addr} {n c : Nat} {xs : List Int} (h : Ints w lo (.slice a n c) xs) (i : Nat) (hi : i < xs.length) : ∃ b off, a = some ⟨b, off, none⟩ ∧ w.cell? ⟨b, off + i, none⟩ = some (.int .i64 (xs.getD i 0)) := by
  obtain ⟨a', cap, hv, h1, h2, h3, h4⟩ := h
  cases hv
  obtain ⟨b, off, ha, hb, hc, hf⟩ := h4 i hi
  exact ⟨b, off, ha, hc⟩

end Go.Proofs.Ytfbbnbpobojboaa

/- A region that draws its order, shown once for every order: each operation is shown at whatever world may stand when it comes up, from what those told that it waits for; what each tells must last. No condition. -/
namespace Go.Proofs.Ytfbbnbpobojboaa.RG
open Go
set_option linter.unusedVariables false
section
variable {P : Program} {ops : Array Oper} {md : Region.Mode}

def dst (ops : Array Oper) (i : Nat) : Option Tmp := (ops[i]?).bind (·.dst)
/-- facts told one by one -/
def Alls (F : Nat → Prop) : Nat → Nat → Prop
  | _, 0 => True
  | k, m+1 => F k ∧ Alls F (k+1) m
theorem Alls.mk {F : Nat → Prop} : ∀ (m k : Nat), (∀ i, i < m → F (k + i)) → Alls F k m
  | 0, k, _ => trivial
  | m+1, k, h => ⟨h 0 (by omega), Alls.mk m (k+1) fun i hi => by have := h (i+1) (by omega); rwa [show k + (i + 1) = k + 1 + i by omega] at this⟩

end
end Go.Proofs.Ytfbbnbpobojboaa.RG

/- Walks: the reader of the drawn arguments: its numbers. -/
namespace Go.Proofs.Ytfbbnbpobojboaa
open Go.RowKit
set_option linter.unusedVariables false
set_option maxRecDepth 100000

/-- a slice of a few bytes, in blocks below hi -/
def Bys (w : World) (hi : Nat) (a : Option Addr) (n cap : Nat) : Prop :=
  n ≤ cap ∧ cap ≤ maxLen ∧ n ≤ 2000 ∧ ∀ i, i < n → ∃ b off x, a = some ⟨b, off, none⟩ ∧ b < hi ∧ w.cell? ⟨b, off + i, none⟩ = some (.int .u8 x) ∧ 0 ≤ x ∧ x < 256
/-- the reader at block rb, of which at most k numbers were asked -/
structure Rd (w : World) (rb k : Nat) : Prop where
  ex : ∃ a n cap p, (0 ≤ p ∧ p ≤ (k : Int)) ∧ w.cell? ⟨rb, 0, none⟩ = some (.slice a n cap) ∧ w.cell? ⟨rb, 1, none⟩ = some (.int .i64 p) ∧ w.frozen? ⟨rb, 1, none⟩ = false ∧ Bys w rb a n cap
theorem Bys.chg {w w' : World} {hi lo h2 : Nat} {a : Option Addr} {n cap : Nat} (h : Bys w hi a n cap) (k : Chg lo h2 w w') (hl : hi ≤ lo) : Bys w' hi a n cap := by
  obtain ⟨h1, h2, h3, h4⟩ := h
  refine ⟨h1, h2, h3, fun i hi => ?_⟩
  obtain ⟨b, off, x, ha, hb, hc, hx⟩ := h4 i hi
  exact ⟨b, off, x, ha, hb, k.cell (.inl (by omega)) hc, hx⟩
theorem Rd.ext {w w' : World} {rb k : Nat} (h : Rd w rb k) (hx : Ext w w') : Rd w' rb k := by
  obtain ⟨a, n, cap, p, hp, h0, h1, h2, hb⟩ := h.ex
  refine ⟨a, n, cap, p, hp, hx.cell h0, hx.cell h1, (hx.frule rb 1 (qB h1)).trans h2, ?_⟩
  obtain ⟨g1, g2, g3, g4⟩ := hb
  refine ⟨g1, g2, g3, fun i hi => ?_⟩
  obtain ⟨b, off, x, ha, hbb, hc, hxx⟩ := g4 i hi
  exact ⟨b, off, x, ha, hbb, hx.cell hc, hxx⟩
theorem Rd.mono {w : World} {rb k k' : Nat} (h : Rd w rb k) (hk : k ≤ k') : Rd w rb k' := by
  obtain ⟨a, n, cap, p, hp, r⟩ := h.ex
  exact ⟨a, n, cap, p, by omega, r⟩
theorem Rd.lt {w : World} {rb k : Nat} (h : Rd w rb k) : rb < w.heap.size := by
  obtain ⟨a, n, cap, p, hp, h0, _⟩ := h.ex
  exact qB h0
/-- cells of other blocks than the reader's -/
theorem Rd.chgO {w w' : World} {rb k lo hi : Nat} (h : Rd w rb k) (c : Chg lo hi w w') (hl : rb < lo) : Rd w' rb k := by
  obtain ⟨a, n, cap, p, hp, h0, h1, h2, hb⟩ := h.ex
  refine ⟨a, n, cap, p, hp, c.cell (.inl hl) h0, c.cell (.inl hl) h1, ?_, hb.chg c (by omega)⟩
  exact (World.frozen?_of_block (a := ⟨rb, 1, none⟩) (c.block rb (qB h1) (.inl hl))).trans h2

/-- the bytes that the law was called with -/
def BysIn (w : World) (a : Option Addr) (n cap : Nat) : Prop :=
  n ≤ cap ∧ cap ≤ maxLen ∧ ∀ i, i < n → ∃ b off x, a = some ⟨b, off, none⟩ ∧ w.cell? ⟨b, off + i, none⟩ = some (.int .u8 x) ∧ 0 ≤ x ∧ x < 256
theorem Rd.alloc {w : World} {rb k : Nat} (h : Rd w rb k) (o : Obj) : Rd (w.alloc o) rb k := h.ext ((Ext.refl _).alloc _)
theorem Rd.drew {w : World} {rb k : Nat} (h : Rd w rb k) : Rd w.drew rb k := h.ext ((Ext.refl _).drew)
theorem Rd.drewN {w : World} {rb k : Nat} (h : Rd w rb k) (n : Nat) : Rd (w.drewN n) rb k := h.ext ((Ext.refl _).drewN n)
theorem Rd.set {w : World} {rb k : Nat} {a : Addr} (h : Rd w rb k) (ha : rb < a.block) (u : Value) : Rd (w.setCell a u) rb k :=
  h.chgO ((Chg.refl a.block (a.block + 1) w).setCell (p := a) (Nat.le_refl _) (Nat.lt_succ_self _) u) ha
theorem Rd.set2 {w : World} {rb k : Nat} {a : Addr} {u : Value} (ha : rb < a.block) (h : Rd w rb k) : Rd (w.setCell a u) rb k := h.set ha u
/-- what was there before, but the reader, is as it was -/
def Rch (rb : Nat) (w w' : World) : Prop := Chg rb (rb + 1) w w'
theorem Rch.refl (rb : Nat) (w : World) : Rch rb w w := Chg.refl _ _ _
theorem Rch.step {rb : Nat} {w a b : World} (h : Rch rb w a) (k : Chg rb (rb + 1) a b) : Rch rb w b := Chg.trans h k
theorem Rch.alloc {rb : Nat} {w w' : World} (h : Rch rb w w') (o : Obj) : Rch rb w (w'.alloc o) := Chg.ext h ((Ext.refl _).alloc _)
theorem Rch.drew {rb : Nat} {w w' : World} (h : Rch rb w w') : Rch rb w w'.drew := Chg.ext h ((Ext.refl _).drew)
theorem Rch.drewN {rb : Nat} {w w' : World} (h : Rch rb w w') (n : Nat) : Rch rb w (w'.drewN n) := Chg.ext h ((Ext.refl _).drewN n)
theorem Rch.ext {rb : Nat} {w w' w'' : World} (h : Rch rb w w') (k : Ext w' w'') : Rch rb w w'' := Chg.ext h k
theorem Rch.set {rb : Nat} {w w' : World} (h : Rch rb w w') {a : Addr} (ha : w.heap.size ≤ a.block) (u : Value) : Rch rb w (w'.setCell a u) :=
  ⟨h.os, h.tape, h.output, by simpa using h.size, fun k hk hd => (Below.heap_setCell _ _ _ _ (by omega)).trans (h.block k hk hd)⟩
theorem Rch.size {rb : Nat} {w w' : World} (h : Rch rb w w') : w.heap.size ≤ w'.heap.size := Chg.size h
theorem Rch.frule {rb : Nat} {w w' : World} (h : Chg rb (rb + 1) w w') : ∀ b o, rb < b → b < w.heap.size → w'.frozen? ⟨b, o, none⟩ = w.frozen? ⟨b, o, none⟩ := fun b o h1 h2 => World.frozen?_of_block (a := ⟨b, o, none⟩) (h.block b h2 (.inr h1))

/-- three numbers at a block -/
def RgAt (w : World) (g : Nat) : Prop := ∃ x y z : Int, w.cell? ⟨g, 0, none⟩ = some (.int .i64 x) ∧ w.cell? ⟨g, 1, none⟩ = some (.int .i64 y) ∧ w.cell? ⟨g, 2, none⟩ = some (.int .i64 z) ∧ w.frozen? ⟨g, 0, none⟩ = false ∧ w.frozen? ⟨g, 1, none⟩ = false ∧ w.frozen? ⟨g, 2, none⟩ = false
theorem RgAt.lt {w : World} {g : Nat} (h : RgAt w g) : g < w.heap.size := by obtain ⟨x, y, z, h, _⟩ := h; exact qB h

theorem BysIn.ext {w w' : World} {a : Option Addr} {n cap : Nat} (h : BysIn w a n cap) (hx : Ext w w') : BysIn w' a n cap := by
  obtain ⟨h1, h2, h3⟩ := h
  refine ⟨h1, h2, fun i hi => ?_⟩
  obtain ⟨b, off, x, ha, hc, hx2⟩ := h3 i hi
  exact ⟨b, off, x, ha, hx.cell hc, hx2⟩

end Go.Proofs.Ytfbbnbpobojboaa

/- A region that draws its order, some reads taken first under a condition on the world, which need not last behind the operations that wait for all those reads (a store to a cell that is read). No condition. -/
namespace Go.Proofs.Ytfbbnbpobojboaa
open Go
set_option linter.unusedVariables false
section
variable {P : Program} {ops : Array Oper} {Q : Exit → Act → World → Prop} {md : Region.Mode} {S : World → Prop} {tl : Nat → Bool}

/-- whatever order is picked; the condition holds behind each operation but those of tl -/
def wpTail (P : Program) (md : Region.Mode) (ops : Array Oper) (Q : Exit → Act → World → Prop) (S : World → Prop) (tl : Nat → Bool) : Nat → Array Bool → Act → World → Prop
  | 0, listed, a, w => Region.ready md ops listed = [] ∧ Q .normal a w
  | n + 1, listed, a, w =>
    (Region.ready md ops listed = [] → Q .normal a w) ∧
    ∀ i ∈ Region.ready md ops listed, wpOp P ops Q i (fun a' w' => (tl i = false → S w') ∧ wpTail P md ops Q S tl n (listed.setIfInBounds i true) a' w') a w

theorem wpTail.any : ∀ (n : Nat) (listed : Array Bool) (a : Act) (w : World), wpTail P md ops Q S tl n listed a w → wpAny P md ops Q n listed a w
  | 0, _, _, _, h => h
  | n + 1, _, _, _, h => ⟨h.1, fun i hi => wpOp_mono (fun a' w' h' => wpTail.any n _ a' w' h'.2) (h.2 i hi)⟩

/-- what waits for i -/
def waitsB (md : Region.Mode) (ops : Array Oper) (tl : Nat → Bool) (i : Nat) : Bool :=
  (List.range ops.size).all fun j => !tl j || (match ops[j]? with | some o => o.after.toList.any fun e => Region.binds md e && e.on == i | none => true)

theorem wpTail.first {i : Nat} {oi : Oper} {v : Value} (hi : ops[i]? = some oi) (hsel : ∀ (j : Nat) (o : Oper) cs b, ops[j]? = some o → o.op ≠ .select cs b)
    (hQ : ∀ c a w, Q (.panic c) (a.put oi.dst v) w → Q (.panic c) a w) (hti : tl i = false) (hwt : waitsB md ops tl i = true) :
    ∀ (n : Nat) (listed : Array Bool) (a : Act) (w : World),
      (∀ j oj, ops[j]? = some oj → j ≠ i → listed.getD j true = false → (∀ e ∈ oj.after, Region.binds md e = true → e.on ≠ i) → oi.apart ops oj = true) →
      i ∈ Region.ready md ops listed → YieldsIf P ops S oi v a → S w →
      wpTail P md ops Q S tl n (listed.setIfInBounds i true) (a.put oi.dst v) w → wpTail P md ops Q S tl (n + 1) listed a w := by
  intro n
  induction n with
  | zero =>
    intro listed a w _ hr hy hS H
    refine ⟨fun h => (by rw [h] at hr; cases hr), fun j hj => ?_⟩
    by_cases hji : j = i
    · subst hji; exact hy.wpOp hi hS ⟨fun _ => hS, H⟩
    · have h0 := ready_mono hj hji
      rw [H.1] at h0
      cases h0
  | succ n ih =>
    intro listed a w hfree hr hy hS H
    refine ⟨fun h => (by rw [h] at hr; cases hr), fun j hj => ?_⟩
    by_cases hji : j = i
    · subst hji; exact hy.wpOp hi hS ⟨fun _ => hS, H⟩
    · have h1 := H.2 j (ready_mono hj hji)
      obtain ⟨hjun, oj, hoj, hall⟩ := mem_ready.1 hj
      have hnot : ∀ e ∈ oj.after, Region.binds md e = true → e.on ≠ i := fun e he hb heq => by
        have h3 := hall e he hb
        have h4 := (mem_ready.1 hr).1
        rw [heq] at h3
        rcases Nat.lt_or_ge i listed.size with h' | h'
        · simp [h'] at h3 h4; rw [h4] at h3; cases h3
        · simp [Array.getElem?_eq_none h'] at h3
      have htj : tl j = false := by
        cases ht : tl j with
        | false => rfl
        | true =>
          have hlt := (Array.getElem?_eq_some_iff.1 hoj).1
          unfold waitsB at hwt
          rw [List.all_eq_true] at hwt
          have h5 := hwt j (List.mem_range.2 hlt)
          rw [ht, hoj] at h5
          simp only [Bool.not_true, Bool.false_or, List.any_eq_true, Bool.and_eq_true, beq_iff_eq] at h5
          obtain ⟨e, he, hb, hon⟩ := h5
          exact absurd hon (hnot e (by simpa using he) hb)
      have h2 := wpOp_putIf hoj (hfree j oj hoj hji hjun hnot) (fun cs b => hsel i oi cs b hi) (fun cs b => hsel j oj cs b hoj) hQ hy h1
      have hfree' : ∀ k ok, ops[k]? = some ok → k ≠ i → (listed.setIfInBounds j true).getD k true = false →
          (∀ e ∈ ok.after, Region.binds md e = true → e.on ≠ i) → oi.apart ops ok = true := fun k ok hk hki hun hno => by
        refine hfree k ok hk hki ?_ hno
        by_cases hjk : j = k
        · subst hjk; exact hjun
        · rw [getD_set_ne true hjk] at hun; exact hun
      refine wpOp_mono (fun a' w' h3 => ⟨h3.2.1, ih (listed.setIfInBounds j true) a' w' hfree' (ready_mono hr (Ne.symm hji)) h3.1 (h3.2.1 htj) ?_⟩) h2
      rw [Array.setIfInBounds_comm _ _ hji]
      exact h3.2.2

theorem wpTail_take {i : Nat} {oi : Oper} {v : Value} {n : Nat} {listed : Array Bool} {a : Act} {w : World} (hi : ops[i]? = some oi)
    (hs : Region.noSelect ops = true) (hf : Region.free md ops listed i = true) (hr : (Region.ready md ops listed).contains i = true) (hti : tl i = false) (hwt : waitsB md ops tl i = true)
    (hQ : ∀ c a w, Q (.panic c) (a.put oi.dst v) w → Q (.panic c) a w) (hy : YieldsIf P ops S oi v a) (hS : S w)
    (h : wpTail P md ops Q S tl n (listed.setIfInBounds i true) (a.put oi.dst v) w) : wpTail P md ops Q S tl (n + 1) listed a w :=
  wpTail.first hi (Region.noSelect_spec hs) hQ hti hwt n listed a w (Region.free_spec hi hf) (by simpa using hr) hy hS h

theorem qTk {oi : Oper} {v : Value} {n : Nat} {listed : Array Bool} {a : Act} {w : World} (i : Nat) (hi : ops[i]? = some oi) (hy : YieldsIf P ops S oi v a)
    (h : wpTail P md ops Q S tl n (listed.setIfInBounds i true) (a.put oi.dst v) w)
    (hs : Region.noSelect ops = true := by kernel_rfl) (hf : Region.free md ops listed i = true := by kernel_rfl) (hr : (Region.ready md ops listed).contains i = true := by kernel_rfl) (hti : tl i = false := by rfl) (hwt : waitsB md ops tl i = true := by kernel_rfl)
    (hQ : ∀ c a w, Q (.panic c) (a.put oi.dst v) w → Q (.panic c) a w := by exact fun _ _ _ h => h) (hS : S w := by assumption) :
    wpTail P md ops Q S tl (n + 1) listed a w := wpTail_take hi hs hf hr hti hwt hQ hy hS h
theorem qTs {oi : Oper} {n : Nat} {listed : Array Bool} {a : Act} {w : World} (i : Nat) (hi : ops[i]? = some oi) (hy : YieldsIf P ops S oi undef a)
    (h : wpTail P md ops Q S tl n (listed.setIfInBounds i true) (a.put oi.dst undef) w)
    (hs : Region.noSelect ops = true := by kernel_rfl) (hf : Region.free md ops listed i = true := by kernel_rfl) (hr : (Region.ready md ops listed).contains i = true := by kernel_rfl) (hti : tl i = false := by rfl) (hwt : waitsB md ops tl i = true := by kernel_rfl)
    (hQ : ∀ c a w, Q (.panic c) (a.put oi.dst undef) w → Q (.panic c) a w := by exact fun _ _ _ h => h) (hS : S w := by assumption) :
    wpTail P md ops Q S tl (n + 1) listed a w := wpTail_take hi hs hf hr hti hwt hQ hy hS h

/-- one operation comes up, and no other can -/
theorem wpTail_one {i : Nat} {o : Oper} {n : Nat} {listed : Array Bool} {a : Act} {w : World} (hr : Region.ready md ops listed = [i]) (ho : ops[i]? = some o) (ht : tl i = false)
    (h : ∀ K' : Act → World → Prop, Shut (∀ a w, S w → (S w → wpTail P md ops Q S tl n (listed.setIfInBounds i true) a w) → K' a w) → if Region.wanted o (yielded ops a.tmps) = true then Oper.wp P o a w K' Q else K' (a.put o.dst undef) w) :
    wpTail P md ops Q S tl (n + 1) listed a w := by
  refine ⟨fun h0 => (by rw [h0] at hr; cases hr), ?_⟩
  rw [hr]
  intro j hj
  obtain rfl : j = i := by simpa using hj
  exact wpOp_step ho (fun K' hK => h K' (fun a w hS hW => hK a w ⟨fun _ => hS, hW hS⟩))
theorem wpTail_done {listed : Array Bool} {a : Act} {w : World} (hr : Region.ready md ops listed = []) (h : Q .normal a w) : ∀ n, wpTail P md ops Q S tl n listed a w
  | 0 => ⟨hr, h⟩
  | _ + 1 => ⟨fun _ => h, by rw [hr]; simp⟩
theorem wp_region_tail {id : Nat} {a : Act} {w : World} (tl : Nat → Bool) (hm : P.follows .mixedOrders = true) (hS : S w.drew)
    (h : S w.drew → wpTail P .any ops Q S tl ops.size (Array.replicate ops.size false) a w.drew) : (Code.region id ops true).wp P Q a w :=
  wp_region_any hm (wpTail.any _ _ _ _ (h hS))
end
end Go.Proofs.Ytfbbnbpobojboaa

/- Words for walks: rows beside changed blocks, where elements lie, normal ranges. No condition. -/
namespace Go.Proofs.Ytfbbnbpobojboaa
open Go.RowKit
set_option linter.unusedVariables false
set_option maxRecDepth 100000

theorem Chg.frzO {lo hi : Nat} {w w' : World} (k : Chg lo hi w w') {b o : Nat} {f : Bool} (hd : b < lo ∨ hi ≤ b) (hb : b < w.heap.size) (hf : w.frozen? ⟨b, o, none⟩ = f) : w'.frozen? ⟨b, o, none⟩ = f :=
  (World.frozen?_of_block (a := ⟨b, o, none⟩) (k.block b hb hd)).trans hf
theorem OwnI.set {base g n c : Nat} {w : World} {xs : List Int} (h : OwnI w base (.slice (some ⟨g, 0, none⟩) n c) xs) (i : Nat) (x : Int) (hi : i < xs.length) : OwnI (w.setCell ⟨g, i, none⟩ (.int .i64 x)) base (.slice (some ⟨g, 0, none⟩) n c) (xs.set i x) := by
  have hn : n = xs.length := by
    rcases h.2 with ⟨h2, _⟩ | ⟨g', cap, cur, hv, _⟩
    · cases h2
    · cases hv; rfl
  subst hn
  unfold OwnI
  rw [List.length_set]
  exact own_set h i x hi
theorem OwnI.cell {base g n c : Nat} {w : World} {xs : List Int} (h : OwnI w base (.slice (some ⟨g, 0, none⟩) n c) xs) (i : Nat) (hi : i < xs.length) : w.cell? ⟨g, i, none⟩ = some (.int .i64 (xs.getD i 0)) ∧ w.frozen? ⟨g, i, none⟩ = false := by
  have hn : n = xs.length := by
    rcases h.2 with ⟨h2, _⟩ | ⟨g', cap, cur, hv, _⟩
    · cases h2
    · cases hv; rfl
  subst hn
  exact own_cell h i hi
theorem OwnI.len {base g n c : Nat} {w : World} {xs : List Int} (h : OwnI w base (.slice (some ⟨g, 0, none⟩) n c) xs) (hn : n ≤ 4194304 := by omega) : xs.length ≤ 4194304 := by
  rcases h.2 with ⟨h2, _⟩ | ⟨g', cap, cur, hv, _⟩
  · cases h2
  · cases hv; exact hn
theorem OwnI.any {base : Nat} {w : World} {v : Value} {xs : List Int} (h : OwnI w base v xs) : ∃ a n c, v = .slice a n c := by
  rcases h.2 with ⟨rfl, _⟩ | ⟨g', cap, cur, rfl, _⟩
  · exact ⟨_, _, _, rfl⟩
  · exact ⟨_, _, _, rfl⟩
theorem Ints.any {lo : Nat} {w : World} {v : Value} {xs : List Int} (h : Ints w lo v xs) : ∃ a n c, v = .slice a n c := by
  obtain ⟨a, c, rfl, _⟩ := h
  exact ⟨_, _, _, rfl⟩
/-- two rows of ints side by side -/
structure Two (B : Nat) (wr : World) (v1 v2 : Value) (xs ys : List Int) : Prop where
  o1 : OwnI wr B v1 xs
  o2 : OwnI wr B v2 ys
  sep : ∀ g, v1.ownBlock = some g → v2.ownBlock ≠ some g
  size : B ≤ wr.heap.size
theorem Two.nil {B : Nat} {w : World} (h : B ≤ w.heap.size) : Two B w (.slice none 0 0) (.slice none 0 0) [] [] := ⟨OwnI.nil _ _, OwnI.nil _ _, (fun g h => (by cases h)), h⟩
theorem Two.ext {B : Nat} {w w' : World} {v1 v2 : Value} {xs ys : List Int} (h : Two B w v1 v2 xs ys) (hx : Ext w w') : Two B w' v1 v2 xs ys := ⟨h.o1.ext hx, h.o2.ext hx, h.sep, Nat.le_trans h.size hx.size⟩
theorem Two.chg {B lo hi : Nat} {w w' : World} {v1 v2 : Value} {xs ys : List Int} (h : Two B w v1 v2 xs ys) (k : Chg lo hi w w') (hb : hi ≤ B) : Two B w' v1 v2 xs ys := ⟨h.o1.chg k hb, h.o2.chg k hb, h.sep, Nat.le_trans h.size k.size⟩
theorem own_lt {B : Nat} {w : World} {v : Value} {xs : List Int} (h : OwnI w B v xs) {g : Nat} (hg : v.ownBlock = some g) : B ≤ g ∧ g < w.heap.size := by
  rcases h.2 with ⟨rfl, _⟩ | ⟨g', cap, cur, rfl, hb, hh, _⟩
  · cases hg
  · cases hg; exact ⟨hb, (Array.getElem?_eq_some_iff.1 hh).1⟩
end Go.Proofs.Ytfbbnbpobojboaa

/- Walks: cutDim of the reference. -/
namespace Go.Proofs.Ytfbbnbpobojboaa
open Go.RowKit
set_option linter.unusedVariables false
set_option maxRecDepth 100000


theorem PView.own {w w' : World} {base : Int} {shape strides : List Int} {v1 v2 : Value} (o1 : OwnZ w' w.heap.size v1 shape) (o2 : OwnZ w' w.heap.size v2 strides) (hd : shape ≠ [] → strides ≠ [] → v1.ownBlock ≠ v2.ownBlock) (l1 : shape.length ≤ 4194304) (l2 : strides.length ≤ 4194304) (hx : Ext w w') :
    PView w base shape strides (.returned (.agg #[.int .i64 base, v1, v2])) w' := ⟨v1, v2, rfl, o1.ints l1, o2.ints l2, o1, o2, hd, hx⟩

end Go.Proofs.Ytfbbnbpobojboaa

/- Walks: SliceDim and FlipDim of the reference. -/
namespace Go.Proofs.Ytfbbnbpobojboaa
open Go.RowKit
set_option linter.unusedVariables false
set_option maxRecDepth 100000


/-- a view with a bool -/
abbrev VBool := Int × List Int × List Int × Bool
def PVB (w : World) (x : VBool) : Ending → World → Prop := PViewB w x.1 x.2.1 x.2.2.1 x.2.2.2
def noV : VBool := (0, [], [], false)
theorem PVB.no {w w' : World} {x : VBool} (h : x = noV) (hx : Ext w w') : PVB w x (.returned (.tuple #[.agg #[.int .i64 0, .slice none 0 0, .slice none 0 0], .bool false])) w' := by
  subst h; exact PViewB.no hx
theorem PVB.yes {w w' : World} {x : VBool} {b : Int} {s t : List Int} {v1 v2 : Value} (h : x = (b, s, t, true)) (o1 : OwnZ w' w.heap.size v1 s) (o2 : OwnZ w' w.heap.size v2 t) (hd : s ≠ [] → t ≠ [] → v1.ownBlock ≠ v2.ownBlock) (l1 : s.length ≤ 4194304) (l2 : t.length ≤ 4194304) (hx : Ext w w') :
    PVB w x (.returned (.tuple #[.agg #[.int .i64 b, v1, v2], .bool true])) w' := by
  subst h; exact ⟨v1, v2, rfl, o1.ints l1, o2.ints l2, o1, o2, hd, hx⟩

end Go.Proofs.Ytfbbnbpobojboaa

/- Walks: permuted of the reference. -/
namespace Go.Proofs.Ytfbbnbpobojboaa
open Go.RowKit
set_option linter.unusedVariables false
set_option maxRecDepth 100000

end Go.Proofs.Ytfbbnbpobojboaa

/- Walks: insert of the reference. -/
namespace Go.Proofs.Ytfbbnbpobojboaa
open Go.RowKit
set_option linter.unusedVariables false
set_option maxRecDepth 100000

end Go.Proofs.Ytfbbnbpobojboaa

/- Walks: made, PermuteDims, FlipDim, AddDim and WindowsOf of the reference. -/
namespace Go.Proofs.Ytfbbnbpobojboaa
open Go.RowKit
set_option linter.unusedVariables false
set_option maxRecDepth 100000


theorem PVB.any {w w' : World} {x : VBool} {b : Int} {s t : List Int} {ok : Bool} {v1 v2 : Value} (h : x = (b, s, t, ok)) (o1 : OwnZ w' w.heap.size v1 s) (o2 : OwnZ w' w.heap.size v2 t) (hd : s ≠ [] → t ≠ [] → v1.ownBlock ≠ v2.ownBlock) (l1 : s.length ≤ 4194304) (l2 : t.length ≤ 4194304) (hx : Ext w w') :
    PVB w x (.returned (.tuple #[.agg #[.int .i64 b, v1, v2], .bool ok])) w' := by
  subst h; exact ⟨v1, v2, rfl, o1.ints l1, o2.ints l2, o1, o2, hd, hx⟩
/-- the view of a VBool: as many strides as extents, no more than four -/
def VBool.fit (x : VBool) : Prop := x.2.2.1.length = x.2.1.length ∧ x.2.1.length ≤ 4
end Go.Proofs.Ytfbbnbpobojboaa

/- Words for walks: an owned row with one element more. No condition. -/
namespace Go.Proofs.Ytfbbnbpobojboaa
open Go.RowKit
set_option linter.unusedVariables false
set_option maxRecDepth 100000

end Go.Proofs.Ytfbbnbpobojboaa

/- Walks: WindowsOf of the reference. -/
namespace Go.Proofs.Ytfbbnbpobojboaa
open Go.RowKit
set_option linter.unusedVariables false
set_option maxRecDepth 100000

end Go.Proofs.Ytfbbnbpobojboaa

/- Walks: drawn ranges and slices. -/
namespace Go.Proofs.Ytfbbnbpobojboaa
open Go.RowKit
set_option linter.unusedVariables false
set_option maxRecDepth 100000

end Go.Proofs.Ytfbbnbpobojboaa

/- Walks: drawn slices. -/
namespace Go.Proofs.Ytfbbnbpobojboaa
open Go.RowKit
set_option linter.unusedVariables false
set_option maxRecDepth 100000

/-- a slice at a block -/
def SlAt (w : World) (g : Nat) : Prop := ∃ (F T B : Int) (hf ht : Bool), w.cell? ⟨g, 0, none⟩ = some (.int .i64 F) ∧ w.cell? ⟨g, 1, none⟩ = some (.int .i64 T) ∧ w.cell? ⟨g, 2, none⟩ = some (.int .i64 B) ∧ w.cell? ⟨g, 3, none⟩ = some (.bool hf) ∧ w.cell? ⟨g, 4, none⟩ = some (.bool ht) ∧
  w.frozen? ⟨g, 0, none⟩ = false ∧ w.frozen? ⟨g, 1, none⟩ = false ∧ w.frozen? ⟨g, 2, none⟩ = false ∧ w.frozen? ⟨g, 3, none⟩ = false ∧ w.frozen? ⟨g, 4, none⟩ = false
theorem SlAt.lt {w : World} {g : Nat} (h : SlAt w g) : g < w.heap.size := by obtain ⟨F, T, B, hf, ht, h, _⟩ := h; exact qB h

end Go.Proofs.Ytfbbnbpobojboaa

/- Walks: drawn shapes. -/
namespace Go.Proofs.Ytfbbnbpobojboaa
open Go.RowKit
set_option linter.unusedVariables false
set_option maxRecDepth 100000

theorem Below.chg {B : Nat} {a b : World} (h : Below B a b) : Chg B a.heap.size a b :=
  ⟨h.os, h.tape, h.output, h.size, fun k hk hd => by
    rcases hd with hd | hd
    · exact h.block k hd
    · omega⟩
theorem Rd.below {B : Nat} {a b : World} {rb k : Nat} (h : Rd a rb k) (hb : Below B a b) (hl : rb < B) : Rd b rb k := h.chgO (Below.chg hb) hl
theorem Rch.below {rb : Nat} {w a b : World} (h : Chg rb (rb + 1) w a) (hb : Below w.heap.size a b) : Chg rb (rb + 1) w b :=
  ⟨hb.os.trans h.os, hb.tape.trans h.tape, hb.output.trans h.output, Nat.le_trans h.size hb.size, fun k hk hd => (hb.block k hk).trans (h.block k hk hd)⟩

end Go.Proofs.Ytfbbnbpobojboaa

/- Words for drawn views: a view in a block, with rows of its own. No condition. -/
namespace Go.Proofs.Ytfbbnbpobojboaa
open Go.RowKit
set_option linter.unusedVariables false
set_option maxRecDepth 100000

/-- a view lies in block g; its rows are the call's own, from block B on, not g -/
structure VAt (B g : Nat) (w : World) (b : Int) (u v : Value) (s t : List Int) : Prop where
  c0 : w.cell? ⟨g, 0, none⟩ = some (.int .i64 b)
  c1 : w.cell? ⟨g, 1, none⟩ = some u
  c2 : w.cell? ⟨g, 2, none⟩ = some v
  f0 : w.frozen? ⟨g, 0, none⟩ = false
  f1 : w.frozen? ⟨g, 1, none⟩ = false
  f2 : w.frozen? ⟨g, 2, none⟩ = false
  o1 : OwnZ w B u s
  o2 : OwnZ w B v t
  sep : s ≠ [] → t ≠ [] → u.ownBlock ≠ v.ownBlock
  n1 : s ≠ [] → u.ownBlock ≠ some g
  n2 : t ≠ [] → v.ownBlock ≠ some g
  fit : t.length = s.length
  le : s.length ≤ 4
section
variable {B g rb lo hi : Nat} {w w' : World} {b : Int} {u v : Value} {s t : List Int}
theorem VAt.lt (h : VAt B g w b u v s t) : g < w.heap.size := qB h.c0
theorem VAt.ext (h : VAt B g w b u v s t) (x : Ext w w') : VAt B g w' b u v s t :=
  ⟨x.cell h.c0, x.cell h.c1, x.cell h.c2, x.frz h.lt h.f0, x.frz h.lt h.f1, x.frz h.lt h.f2, h.o1.ext x, h.o2.ext x, h.sep, h.n1, h.n2, h.fit, h.le⟩
/-- another block has turned, behind the rows and the view -/
theorem VAt.chgB (h : VAt B g w b u v s t) (k : Chg lo hi w w') (hg : g < lo) (h1 : s ≠ [] → ∀ q, u.ownBlock = some q → q < lo) (h2 : t ≠ [] → ∀ q, v.ownBlock = some q → q < lo) : VAt B g w' b u v s t :=
  ⟨k.cell (by omega) h.c0, k.cell (by omega) h.c1, k.cell (by omega) h.c2, k.frzO (by omega) h.lt h.f0, k.frzO (by omega) h.lt h.f1, k.frzO (by omega) h.lt h.f2, h.o1.chgB k h1, h.o2.chgB k h2, h.sep, h.n1, h.n2, h.fit, h.le⟩
/-- another block has turned, ahead of the rows, not the view's -/
theorem VAt.chg (h : VAt B g w b u v s t) (k : Chg lo hi w w') (hg : g < lo ∨ hi ≤ g) (hb : hi ≤ B) : VAt B g w' b u v s t :=
  ⟨k.cell hg h.c0, k.cell hg h.c1, k.cell hg h.c2, k.frzO hg h.lt h.f0, k.frzO hg h.lt h.f1, k.frzO hg h.lt h.f2, h.o1.chg k hb, h.o2.chg k hb, h.sep, h.n1, h.n2, h.fit, h.le⟩
theorem VAt.lower (h : VAt B g w b u v s t) {B' : Nat} (hb : B' ≤ B) : VAt B' g w b u v s t := ⟨h.c0, h.c1, h.c2, h.f0, h.f1, h.f2, h.o1.lower hb, h.o2.lower hb, h.sep, h.n1, h.n2, h.fit, h.le⟩
theorem VAt.new (b : Int) (o1 : OwnZ w B u s) (o2 : OwnZ w B v t) (hs : s ≠ [] → t ≠ [] → u.ownBlock ≠ v.ownBlock) (hf : t.length = s.length) (hl : s.length ≤ 4) : VAt B w.heap.size (w.alloc (.cells #[.int .i64 b, u, v] 36)) b u v s t :=
  ⟨by simp, by simp, by simp, by simp, by simp, by simp, o1.ext ((Ext.refl w).alloc _), o2.ext ((Ext.refl w).alloc _), hs, (fun h e => by have := o1.bound h _ e; omega), (fun h e => by have := o2.bound h _ e; omega), hf, hl⟩
end
/-- a view is stored into a block that lies ahead of its rows -/
theorem VAt.put {B g : Nat} {w : World} {b b0 : Int} {u v u0 v0 : Value} {s t : List Int} (c0 : w.cell? ⟨g, 0, none⟩ = some (.int .i64 b0)) (c1 : w.cell? ⟨g, 1, none⟩ = some u0) (c2 : w.cell? ⟨g, 2, none⟩ = some v0)
    (f0 : w.frozen? ⟨g, 0, none⟩ = false) (f1 : w.frozen? ⟨g, 1, none⟩ = false) (f2 : w.frozen? ⟨g, 2, none⟩ = false) (o1 : OwnZ w B u s) (o2 : OwnZ w B v t) (hs : s ≠ [] → t ≠ [] → u.ownBlock ≠ v.ownBlock) (hf : t.length = s.length) (hl : s.length ≤ 4) (hg : g < B) :
    VAt B g (((w.setCell ⟨g, 0, none⟩ (.int .i64 b)).setCell ⟨g, 1, none⟩ u).setCell ⟨g, 2, none⟩ v) b u v s t := by
  have k := Chg.three (lo := g) w (.int .i64 b) u v
  have m1 : s ≠ [] → u.ownBlock ≠ some g := fun h e => by obtain ⟨q, e2, h2, _⟩ := o1.lt h; rw [e2] at e; cases e; omega
  have m2 : t ≠ [] → v.ownBlock ≠ some g := fun h e => by obtain ⟨q, e2, h2, _⟩ := o2.lt h; rw [e2] at e; cases e; omega
  exact ⟨by go_simp, by go_simp, by go_simp, by go_simp, by go_simp, by go_simp, o1.chg k (by omega), o2.chg k (by omega), hs, m1, m2, hf, hl⟩

/-- a view that is told to be one has a dimension -/
def VBool.live (x : VBool) : Prop := x.2.2.2 = true → x.2.1 ≠ []
/-- a call hands back a view with a bool: as many strides as extents, no more than four -/
def PFit (w : World) (e : Ending) (w' : World) : Prop :=
  ∃ (b : Int) (s t : List Int) (ok : Bool) (p1 p2 : Option Addr) (n1 r1 n2 r2 : Nat), e = .returned (.tuple #[.agg #[.int .i64 b, .slice p1 n1 r1, .slice p2 n2 r2], .bool ok]) ∧ OwnZ w' w.heap.size (.slice p1 n1 r1) s ∧ OwnZ w' w.heap.size (.slice p2 n2 r2) t ∧
    (s ≠ [] → t ≠ [] → (Value.slice p1 n1 r1).ownBlock ≠ (Value.slice p2 n2 r2).ownBlock) ∧ t.length = s.length ∧ (s.length ≤ 4 ∧ (ok = true → s ≠ [])) ∧ Ext w w'
theorem PFit.of {w w' : World} {e : Ending} {x : VBool} (h : PVB w x e w') (hf : x.fit) (hv : x.live) : PFit w e w' := by
  obtain ⟨b, s, t, ok⟩ := x
  obtain ⟨sh, st, rfl, -, -, o1, o2, od, xx⟩ := h
  obtain ⟨p1, n1, r1, rfl⟩ := o1.form
  obtain ⟨p2, n2, r2, rfl⟩ := o2.form
  exact ⟨b, s, t, ok, p1, p2, n1, r1, n2, r2, rfl, o1, o2, od, hf.1, ⟨hf.2, hv⟩, xx⟩
/-- the state behind the choice of the next view -/
def NextAt (rb q gn gv : Nat) (w : World) (b : Int) (u v : Value) (s t : List Int) (ok : Value) (wx : World) : Prop :=
  ∃ (o : Bool) (b' : Int) (s' t' : List Int) (p1 p2 : Option Addr) (m1 r1 m2 r2 : Nat), ok = .bool o ∧ (o = true → s' ≠ []) ∧ VAt (gn + 1) gn wx b' (.slice p1 m1 r1) (.slice p2 m2 r2) s' t' ∧ VAt (w.heap.size + 1) gv wx b u v s t ∧
    VAt (w.heap.size + 1) w.heap.size wx 0 (.slice none 0 0) (.slice none 0 0) [] [] ∧ Rd wx rb (q + 20) ∧ Rch rb w wx
theorem NextAt.put {rb q gn gv B0 B m1 r1 m2 r2 : Nat} {w w12 : World} {b bn b' : Int} {u v un vn : Value} {p1 p2 : Option Addr} {s t sn tn s' t' : List Int} (o : Bool) (VN : VAt B0 gn w12 bn un vn sn tn) (V : VAt (w.heap.size + 1) gv w12 b u v s t)
    (Q : VAt (w.heap.size + 1) w.heap.size w12 0 (.slice none 0 0) (.slice none 0 0) [] []) (hr : Rd w12 rb (q + 20)) (X : Rch rb w w12) (h1 : rb < w.heap.size) (h2 : w.heap.size < gv) (h3 : gv < gn)
    (hb1 : s ≠ [] → ∀ g, u.ownBlock = some g → g < gn) (hb2 : t ≠ [] → ∀ g, v.ownBlock = some g → g < gn) (o1 : OwnZ w12 B (.slice p1 m1 r1) s') (o2 : OwnZ w12 B (.slice p2 m2 r2) t') (hs : s' ≠ [] → t' ≠ [] → (Value.slice p1 m1 r1).ownBlock ≠ (Value.slice p2 m2 r2).ownBlock) (hf : t'.length = s'.length) (hl : s'.length ≤ 4 ∧ (o = true → s' ≠ [])) (hB : gn < B) :
    NextAt rb q gn gv w b u v s t (.bool o) (((w12.setCell ⟨gn, 0, none⟩ (.int .i64 b')).setCell ⟨gn, 1, none⟩ (.slice p1 m1 r1)).setCell ⟨gn, 2, none⟩ (.slice p2 m2 r2)) :=
  ⟨o, b', s', t', p1, p2, m1, r1, m2, r2, rfl, hl.2, VAt.put VN.c0 VN.c1 VN.c2 VN.f0 VN.f1 VN.f2 (o1.lower hB) (o2.lower hB) hs hf hl.1 (Nat.lt_succ_self _), V.chgB (Chg.three w12 _ _ _) h3 hb1 hb2,
    Q.chgB (Chg.three w12 _ _ _) (by omega) (fun h => absurd rfl h) (fun h => absurd rfl h),
    Rd.set2 (show rb < gn by omega) (Rd.set2 (show rb < gn by omega) (Rd.set2 (show rb < gn by omega) hr)),
    ((X.set (show w.heap.size ≤ gn by omega) _).set (show w.heap.size ≤ gn by omega) _).set (show w.heap.size ≤ gn by omega) _⟩

end Go.Proofs.Ytfbbnbpobojboaa

/- Walks: ValidView, FitsIn, BoundsOf. -/
namespace Go.Proofs.Ytfbbnbpobojboaa
open Go.RowKit
set_option linter.unusedVariables false
set_option maxRecDepth 100000


end Go.Proofs.Ytfbbnbpobojboaa

/- Words for memory: lists of records (Tensor). No condition. -/
namespace Go.Proofs.Ytfbbnbpobojboaa
open Go.RowKit
set_option linter.unusedVariables false
set_option maxRecDepth 100000

/-- a record -/
structure Ten where
  s : List Int
  t : List Int
def noTen : Ten := ⟨[], []⟩
def tenAt (rs : List Ten) (i : Nat) : Ten := rs.getD i noTen
theorem tenAt_get {rs : List Ten} {i : Nat} (h : i < rs.length) : tenAt rs i = rs[i] := by unfold tenAt; simp [h]
theorem tenAt_set (rs : List Ten) (i : Nat) (e : Ten) (j : Nat) (hi : i < rs.length) : tenAt (rs.set i e) j = if j = i then e else tenAt rs j := by
  unfold tenAt
  rw [List.getD_eq_getElem?_getD, List.getElem?_set, List.getD_eq_getElem?_getD]
  by_cases h : i = j
  · subst h; simp [hi]
  · rw [if_neg h, if_neg (by omega)]
theorem take_tenAt {rs : List Ten} {k : Nat} (h : k < rs.length) : rs.take (k+1) = rs.take k ++ [tenAt rs k] := by rw [List.take_succ_eq_append_getElem h, tenAt_get h]
/-- the slice value v reads as the records rs; its cells, and their rows', lie in blocks from lo on -/
def Tens (w : World) (lo : Nat) (v : Value) (rs : List Ten) : Prop :=
  ∃ a cap, v = .slice a rs.length cap ∧ rs.length ≤ cap ∧ cap ≤ maxLen ∧ (rs.length ≤ 1048576 ∧ (a = none → cap = 0)) ∧
    ∀ i, i < rs.length → ∃ bl off u1 c1 u2 c2, a = some ⟨bl, off, none⟩ ∧ lo ≤ bl ∧ w.cell? ⟨bl, off + i * 2, none⟩ = some (.slice u1 (tenAt rs i).s.length c1) ∧ w.cell? ⟨bl, off + i * 2 + 1, none⟩ = some (.slice u2 (tenAt rs i).t.length c2) ∧ Ints w lo (.slice u1 (tenAt rs i).s.length c1) (tenAt rs i).s ∧ Ints w lo (.slice u2 (tenAt rs i).t.length c2) (tenAt rs i).t
section
variable {w w' : World} {lo lo' : Nat} {v : Value} {rs : List Ten}
theorem Tens.ext (h : Tens w lo v rs) (hx : Ext w w') : Tens w' lo v rs := by
  obtain ⟨a, cap, hv, h1, h2, h3, h4⟩ := h
  refine ⟨a, cap, hv, h1, h2, h3, fun i hi => ?_⟩
  obtain ⟨bl, off, u1, c1, u2, c2, ha, hl, k0, k1, j1, j2⟩ := h4 i hi
  exact ⟨bl, off, u1, c1, u2, c2, ha, hl, hx.cell k0, hx.cell k1, j1.ext hx, j2.ext hx⟩
theorem Tens.lower (h : Tens w lo v rs) (hl : lo' ≤ lo) : Tens w lo' v rs := by
  obtain ⟨a, cap, hv, h1, h2, h3, h4⟩ := h
  refine ⟨a, cap, hv, h1, h2, h3, fun i hi => ?_⟩
  obtain ⟨bl, off, u1, c1, u2, c2, ha, hb, k0, k1, j1, j2⟩ := h4 i hi
  exact ⟨bl, off, u1, c1, u2, c2, ha, by omega, k0, k1, j1.lower hl, j2.lower hl⟩
theorem Tens.chg {l h' : Nat} (h : Tens w lo v rs) (k : Chg l h' w w') (hb : h' ≤ lo) : Tens w' lo v rs := by
  obtain ⟨a, cap, hv, h1, h2, h3, h4⟩ := h
  refine ⟨a, cap, hv, h1, h2, h3, fun i hi => ?_⟩
  obtain ⟨bl, off, u1, c1, u2, c2, ha, hb', k0, k1, j1, j2⟩ := h4 i hi
  exact ⟨bl, off, u1, c1, u2, c2, ha, hb', k.cell (.inr (by omega)) k0, k.cell (.inr (by omega)) k1, j1.chg k hb, j2.chg k hb⟩
theorem Tens.form (h : Tens w lo v rs) : ∃ a c, v = .slice a rs.length c := by obtain ⟨a, cap, rfl, _⟩ := h; exact ⟨_, _, rfl⟩
theorem Tens.len (h : Tens w lo v rs) : rs.length ≤ 1048576 := by obtain ⟨_, _, _, _, _, ⟨h, _⟩, _⟩ := h; exact h
theorem Tens.nil (w : World) (lo : Nat) : Tens w lo (.slice none 0 0) [] := ⟨none, 0, rfl, by simp, by simp, ⟨by simp, fun _ => rfl⟩, fun i hi => absurd hi (by simp)⟩
/-- the cells of one record -/
theorem Tens.at {a : Option Addr} {n c : Nat} (h : Tens w lo (.slice a n c) rs) (i : Nat) (hi : i < rs.length) : ∃ bl off u1 c1 u2 c2, a = some ⟨bl, off, none⟩ ∧ w.cell? ⟨bl, off + i * 2, none⟩ = some (.slice u1 (tenAt rs i).s.length c1) ∧ w.cell? ⟨bl, off + i * 2 + 1, none⟩ = some (.slice u2 (tenAt rs i).t.length c2) ∧ Ints w lo (.slice u1 (tenAt rs i).s.length c1) (tenAt rs i).s ∧ Ints w lo (.slice u2 (tenAt rs i).t.length c2) (tenAt rs i).t := by
  obtain ⟨a', cap, hv, h1, h2, h3, h4⟩ := h
  cases hv
  obtain ⟨bl, off, u1, c1, u2, c2, ha, hb, k⟩ := h4 i hi
  exact ⟨bl, off, u1, c1, u2, c2, ha, k⟩
end
def erowCT (e : Ten) (u1 : Value) (u2 : Value) : List Value := [u1, u2]
def rowCT (rs : List Ten) (R : Nat → Value) : List (List Value) := (List.range rs.length).map fun i => erowCT (tenAt rs i) (R (2 * i)) (R (2 * i + 1))
theorem rowCT_len (rs : List Ten) (R : Nat → Value) : (rowCT rs R).length = rs.length := by simp [rowCT]
theorem rowCT_get (rs : List Ten) (R : Nat → Value) (i : Nat) (h : i < (rowCT rs R).length) : (rowCT rs R)[i] = erowCT (tenAt rs i) (R (2 * i)) (R (2 * i + 1)) := by simp [rowCT]
theorem infoT : (Try.prog.info? 109).map (fun i => (i.zero, i.size, i.bytes)) = some (some (.agg #[.slice none 0 0, .slice none 0 0]), 2, 48) := by kernel_rfl
/-- a row of records can be read -/
theorem Tens.ofRow {w : World} {lo lo2 : Nat} {rs : List Ten} {R : Nat → Value} {g r : Nat} (h : OwnC w lo 109 2 (.slice (some ⟨g, 0, none⟩) rs.length r) (rowCT rs R)) (hn : ∀ i, i < rs.length → Ints w lo2 (R (2 * i)) (tenAt rs i).s ∧ Ints w lo2 (R (2 * i + 1)) (tenAt rs i).t) (hl : rs.length ≤ 1048576) (lo3 : Nat) (h3 : lo3 ≤ lo) (h4 : lo3 ≤ lo2) : Tens w lo3 (.slice (some ⟨g, 0, none⟩) rs.length r) rs := by
  have e1 : (.slice (some ⟨g, 0, none⟩) rs.length r : Value) = .slice (some ⟨g, 0, none⟩) (rowCT rs R).length r := by rw [rowCT_len]
  have hb := (h.blkM g rfl).1
  by_cases he : rs = []
  · subst he
    obtain ⟨hr, -⟩ := h
    rcases hr.2 with ⟨h0, _⟩ | ⟨g', cap, cur, hv, hb, hh, h1, h2, _⟩
    · cases h0
    · cases hv
      exact ⟨_, r, rfl, by simp, h2, ⟨by simp, fun h => by cases h⟩, fun i hi => absurd hi (by simp)⟩
  · have hb2 := h.lt (by intro h0; have := rowCT_len rs R; rw [h0] at this; exact he (List.eq_nil_of_length_eq_zero this.symm))
    obtain ⟨g', c', hv, -, -, -, hc, hm⟩ := hb2
    rw [rowCT_len] at hv hc
    cases hv
    refine ⟨_, r, rfl, hc, hm, ⟨hl, fun h => by cases h⟩, fun i hi => ?_⟩
    rw [e1] at h
    have k := fun j (hj : j < 2) => (h.cell i j (by rw [rowCT_len]; exact hi) hj).1
    rw [rowCT_get] at k
    obtain ⟨j1, j2⟩ := hn i hi
    obtain ⟨u1, c1, e1⟩ := j1.form
    rw [e1] at j1
    obtain ⟨u2, c2, e2⟩ := j2.form
    rw [e2] at j2
    refine ⟨g, 0, u1, c1, u2, c2, rfl, by omega, ?_, ?_, j1.lower h4, j2.lower h4⟩
    · have := k 0 (by omega); rw [Nat.zero_add]; rw [← e1]; exact this
    · have := k 1 (by omega); rw [Nat.zero_add]; rw [← e2]; exact this
theorem rowCT_all (rs : List Ten) (R : Nat → Value) : ∀ c ∈ rowCT rs R, c.length = 2 := fun c hc => by
  unfold rowCT at hc
  obtain ⟨i, -, rfl⟩ := List.mem_map.1 hc
  rfl

end Go.Proofs.Ytfbbnbpobojboaa

/- Walks of the laws' own helpers: lists of records (Tensor). -/
namespace Go.Proofs.Ytfbbnbpobojboaa
open Go.RowKit
set_option linter.unusedVariables false
set_option maxRecDepth 100000

/-- a slice of records that came in -/
def RawT (w : World) (v : Value) (rs : List Ten) : Prop :=
 ∃ a cap, v = .slice a rs.length cap ∧ (a = none → cap = 0) ∧
  ∀ i, i < rs.length → ∃ bl off u1 c1 u2 c2, a = some ⟨bl, off, none⟩ ∧ w.cell? ⟨bl, off + i * 2, none⟩ = some (.slice u1 (tenAt rs i).s.length c1) ∧ w.cell? ⟨bl, off + i * 2 + 1, none⟩ = some (.slice u2 (tenAt rs i).t.length c2) ∧ Raw w (.slice u1 (tenAt rs i).s.length c1) (tenAt rs i).s ∧ Raw w (.slice u2 (tenAt rs i).t.length c2) (tenAt rs i).t ∧ (tenAt rs i).s.length ≤ maxLen ∧ (tenAt rs i).t.length ≤ maxLen
theorem RawT.ext {w w' : World} {v : Value} {rs : List Ten} (h : RawT w v rs) (hx : Ext w w') : RawT w' v rs := by
 obtain ⟨a, cap, hv, h3, h4⟩ := h
 refine ⟨a, cap, hv, h3, fun i hi => ?_⟩
 obtain ⟨bl, off, u1, c1, u2, c2, ha, k0, k1, j1, j2, m⟩ := h4 i hi
 exact ⟨bl, off, u1, c1, u2, c2, ha, hx.cell k0, hx.cell k1, j1.ext hx, j2.ext hx, m⟩
theorem RawT.form {w : World} {v : Value} {rs : List Ten} (h : RawT w v rs) : ∃ a cap, v = .slice a rs.length cap := by
 obtain ⟨a, cap, hv, _⟩ := h; exact ⟨a, cap, hv⟩
/-- the numbers in the rows of the first k records -/
def sizeT (rs : List Ten) : Nat → Nat
 | 0 => 0
 | k + 1 => sizeT rs k + ((tenAt rs k).s.length + (tenAt rs k).t.length)
theorem sizeT_le (rs : List Ten) (i k : Nat) (h : i < k) : (tenAt rs i).s.length + (tenAt rs i).t.length ≤ sizeT rs k := by
 induction k with
 | zero => omega
 | succ k ih =>
  unfold sizeT
  by_cases hk : i = k
  ·
   subst hk; omega
  ·
   have := ih (by omega); omega
set_option maxHeartbeats 1600000 in
theorem sz1T_c (a1 : Option Addr) (n1 c1 : Nat) (a2 : Option Addr) (n2 c2 : Nat) (left : Int) (w : World) (h0 : 0 ≤ left) (h1 : left ≤ 1048576) (m1 : n1 ≤ maxLen) (m2 : n2 ≤ maxLen) :
  Calls Try.prog 92 #[.agg #[.slice a1 n1 c1, .slice a2 n2 c2], .int .i64 left] w (PLeftM (n1 + n2) left w) := by
 go_enter Try.func92, Try.ntmps92
 go_wp2_with fail
 refine (szIntS_c a1 n1 c1 left _ h0 h1 m1).mono ?_
 rintro e w' ⟨rfl, rfl⟩
 have g1 := szN_ge left n1
 by_cases hq : szN left n1 < 0
 ·
  go_wp2_with fail
  go_ret
  exact ⟨-1, rfl, by omega, by omega, fun h => by omega, qXt⟩
 ·
  obtain ⟨z1, z2⟩ := g1.2.2 (by omega)
  have z3 := g1.2.1 h0
  generalize szN left n1 = L1 at *
  clear g1
  replace z2 := Lib.hid z2
  go_wp2_with fail
  refine (szIntS_c a2 n2 c2 L1 _ (by omega) (by omega) m2).mono ?_
  rintro e w' ⟨rfl, rfl⟩
  have g2 := szN_ge L1 n2
  generalize szN L1 n2 = L2 at *
  by_cases hn : L2 < 0
  ·
   go_wp2_with fail
   go_ret
   exact ⟨-1, rfl, by omega, by omega, fun h => by omega, qXt⟩
  ·
   go_wp2_with fail
   go_ret
   exact ⟨L2, rfl, by omega, by omega, fun _ => by have := z2.out; omega, qXt⟩
set_option maxHeartbeats 1600000 in
theorem szTensorS_c (rs : List Ten) (v : Value) (left : Int) (w : World) (hv : RawT w v rs) (h0 : 0 ≤ left) (h1 : left ≤ 1048576) (hm : rs.length ≤ maxLen) :
  Calls Try.prog 33 #[v, .int .i64 left] w (PLeftM (rs.length + sizeT rs rs.length) left w) := by
 obtain ⟨a, cap, rfl, _, hc⟩ := hv
 unfold maxLen at hm
 go_enter Try.func33, Try.ntmps33
 by_cases hq : left - rs.length < 0
 ·
  go_wp2_with fail
  go_ret
  exact ⟨-1, rfl, by omega, by omega, fun h => by omega, qXt⟩
 ·
  go_wp2_with fail
  go_loopw [1, 5] (fun l i wr => ∃ (k : Nat) (L : Int), k ≤ rs.length ∧ i = .int .i64 k ∧ l = .int .i64 L ∧ 0 ≤ L ∧ ((rs.length + sizeT rs k : Nat) : Int) + L = left ∧ Ext w wr) (fun _ i _ => rs.length - (intOf i).toNat)
  case atStart => exact ⟨0, left - rs.length, Nat.zero_le _, rfl, rfl, by omega, by unfold sizeT; omega, qXt⟩
  case round =>
   obtain ⟨k, L, hk, rfl, rfl, hL, hs, Xr⟩ := hrel
   by_cases hlt : k < rs.length
   ·
    have hkI : (k : Int) < rs.length := by omega
    obtain ⟨bl, off, u1, c1, u2, c2, rfl, k0, k1, j1, j2, m1, m2⟩ := hc k hlt
    replace k0 := Xr.cell k0
    replace k1 := Xr.cell k1
    clear hc j1 j2
    have hse : sizeT rs (k+1) = sizeT rs k + ((tenAt rs k).s.length + (tenAt rs k).t.length) := rfl
    go_wp2_with fail
    refine (sz1T_c _ _ _ _ _ _ L _ hL (by omega) m1 m2).mono ?_
    rintro e w1 ⟨L1, rfl, q1, q2, q3, x1⟩
    have X1 : Ext w w1 := Xr.trans (Ext.trans qXt x1)
    by_cases hn : L1 < 0
    ·
     go_wp2_with fail
     go_ret
     exact ⟨-1, rfl, by omega, by omega, fun h => by omega, X1⟩
    ·
     have q4 := q3 (by omega)
     go_wp2_with fail
     go_roundw
     case rel => exact ⟨k+1, L1, by omega, by go_num, rfl, by omega, by rw [hse]; omega, X1⟩
     case measure => simp [intOf]; omega
   ·
    obtain rfl : k = rs.length := by omega
    go_wp2_with fail
    go_ret
    exact ⟨L, rfl, by omega, by omega, fun _ => hs, Xr⟩
/-- a call hands back a new tensor -/
def PTen1 (w : World) (x : Ten) (e : Ending) (w' : World) : Prop := ∃ u v, e = .returned (.agg #[u, v]) ∧ Ints w' w.heap.size u x.s ∧ Ints w' w.heap.size v x.t ∧ OwnZ w' w.heap.size u x.s ∧ OwnZ w' w.heap.size v x.t ∧
 (x.s ≠ [] → x.t ≠ [] → u.ownBlock ≠ v.ownBlock) ∧ Ext w w'
set_option maxHeartbeats 1600000 in
theorem toTensor_c (x : Ten) (a1 a2 : Option Addr) (c1 c2 : Nat) (w : World) (h1 : Raw w (.slice a1 x.s.length c1) x.s) (h2 : Raw w (.slice a2 x.t.length c2) x.t) (m1 : x.s.length ≤ 4194304) (m2 : x.t.length ≤ 4194304) :
  Calls Try.prog 96 #[.agg #[.slice a1 x.s.length c1, .slice a2 x.t.length c2]] w (PTen1 w x) := by
 obtain ⟨s, t⟩ := x
 dsimp only at h1 h2 m1 m2 ⊢
 go_enter Try.func96, Try.ntmps96
 go_wp2_with fail
 refine (toIntS_c s _ _ (h1.ext qXt) m1).mono ?_
 rintro e w1 ⟨v1, rfl, i1, z1, xw1⟩
 have Lw1 : Ext w w1 := Ext.trans qXt xw1
 have Xw1 : Ext w w1 := Lw1
 have a0 : w1.cell? ⟨w.heap.size, 0, none⟩ = some (.slice a1 s.length c1) := xw1.cell qCl
 have a1 : w1.cell? ⟨w.heap.size, 1, none⟩ = some (.slice a2 t.length c2) := xw1.cell qCl
 have q0 : w1.cell? ⟨w.heap.size + 1, 0, none⟩ = some (.slice none 0 0) := xw1.cell qCl
 have q1 : w1.cell? ⟨w.heap.size + 1, 1, none⟩ = some (.slice none 0 0) := xw1.cell qCl
 have f_q0 : w1.frozen? ⟨w.heap.size + 1, 0, none⟩ = false := xw1.frz (by simp <;> omega) qFz
 have f_q1 : w1.frozen? ⟨w.heap.size + 1, 1, none⟩ = false := xw1.frz (by simp <;> omega) qFz
 have y0 : w1.cell? ⟨w.heap.size + 1 + 1, 0, none⟩ = some (.slice none 0 0) := xw1.cell qCl
 have y1 : w1.cell? ⟨w.heap.size + 1 + 1, 1, none⟩ = some (.slice none 0 0) := xw1.cell qCl
 have f_y0 : w1.frozen? ⟨w.heap.size + 1 + 1, 0, none⟩ = false := xw1.frz (by simp <;> omega) qFz
 have f_y1 : w1.frozen? ⟨w.heap.size + 1 + 1, 1, none⟩ = false := xw1.frz (by simp <;> omega) qFz
 have z_a : w.heap.size < w1.heap.size := qB a0
 have z_q : w.heap.size + 1 < w1.heap.size := qB q0
 have z_y : w.heap.size + 1 + 1 < w1.heap.size := qB y0
 have s_w1 : w.heap.size ≤ w1.heap.size := Xw1.size
 clear xw1
 replace i1 := i1.lower (lo' := w.heap.size + 1 + 1 + 1) (by first | (simp; done) | (simp; omega))
 replace z1 := z1.lower (base' := w.heap.size + 1 + 1 + 1) (by first | (simp; done) | (simp; omega))
 obtain ⟨d1, f1, rfl⟩ := i1.form
 go_wp2_with fail
 generalize hW1 : (w1.setCell ⟨w.heap.size + 1 + 1, 0, none⟩ (.slice d1 s.length f1)) = w2 at *
 have Kw2 : Chg (w.heap.size + 1 + 1) (w.heap.size + 1 + 1 + 1) w1 w2 := by subst hW1; exact qCh
 have Xw2 : Ext w w2 := by subst hW1; exact qXt
 replace a0 := Kw2.cell (by omega) a0
 replace a1 := Kw2.cell (by omega) a1
 replace q0 := Kw2.cell (by omega) q0
 replace f_q0 := Kw2.frzO (by omega) z_q f_q0
 replace q1 := Kw2.cell (by omega) q1
 replace f_q1 := Kw2.frzO (by omega) z_q f_q1
 replace y0 : w2.cell? ⟨w.heap.size + 1 + 1, 0, none⟩ = some (.slice d1 s.length f1) := by subst hW1; go_simp
 replace f_y0 : w2.frozen? ⟨w.heap.size + 1 + 1, 0, none⟩ = false := by subst hW1; first | (simp only [World.frozen?_setCell]; with_reducible assumption) | go_simp
 replace y1 : w2.cell? ⟨w.heap.size + 1 + 1, 1, none⟩ = some (.slice none 0 0) := by subst hW1; go_simp
 replace f_y1 : w2.frozen? ⟨w.heap.size + 1 + 1, 1, none⟩ = false := by subst hW1; first | (simp only [World.frozen?_setCell]; with_reducible assumption) | go_simp
 replace i1 := i1.chg Kw2 (by omega)
 replace z1 := z1.chg Kw2 (by omega)
 clear Kw2
 have z_a : w.heap.size < w2.heap.size := qB a0
 have z_q : w.heap.size + 1 < w2.heap.size := qB q0
 have z_y : w.heap.size + 1 + 1 < w2.heap.size := qB y0
 have s_w2 : w.heap.size ≤ w2.heap.size := Xw2.size
 clear hW1
 have hsz := z_y
 have z1L := Lib.hid z1
 go_wp2_with fail
 refine (toIntS_c t _ _ (h2.ext Xw2) m2).mono ?_
 rintro e w3 ⟨v2, rfl, i2, z2, xw3⟩
 have Lw3 : Ext w2 w3 := Ext.trans qXt xw3
 have Xw3 : Ext w w3 := Xw2.trans Lw3
 replace a0 := Lw3.cell a0
 replace a1 := Lw3.cell a1
 replace q0 := Lw3.cell q0
 replace q1 := Lw3.cell q1
 replace f_q0 := Lw3.frz z_q f_q0
 replace f_q1 := Lw3.frz z_q f_q1
 replace y0 := Lw3.cell y0
 replace y1 := Lw3.cell y1
 replace f_y0 := Lw3.frz z_y f_y0
 replace f_y1 := Lw3.frz z_y f_y1
 have z_a : w.heap.size < w3.heap.size := qB a0
 have z_q : w.heap.size + 1 < w3.heap.size := qB q0
 have z_y : w.heap.size + 1 + 1 < w3.heap.size := qB y0
 replace i1 := i1.ext Lw3
 replace z1 := z1.ext Lw3
 have s_w3 : w.heap.size ≤ w3.heap.size := Xw3.size
 clear xw3
 obtain ⟨d2, f2, rfl⟩ := i2.form
 have hap : s ≠ [] → t ≠ [] → (Value.slice d1 s.length f1).ownBlock ≠ (Value.slice d2 t.length f2).ownBlock := fun hs ht he => by
  obtain ⟨b1, q1, -, l1⟩ := z1L.out.lt hs
  obtain ⟨b2, q2, l2, -⟩ := z2.lt ht
  rw [he, q2] at q1
  have := Option.some.inj q1
  omega
 replace hap := Lib.hid hap
 go_wp2_with fail
 generalize hW2 : (w3.setCell ⟨w.heap.size + 1 + 1, 1, none⟩ (.slice d2 t.length f2)) = w4 at *
 have Kw4 : Chg (w.heap.size + 1 + 1) (w.heap.size + 1 + 1 + 1) w3 w4 := by subst hW2; exact qCh
 have Xw4 : Ext w w4 := by subst hW2; exact qXt
 replace a0 := Kw4.cell (by omega) a0
 replace a1 := Kw4.cell (by omega) a1
 replace q0 := Kw4.cell (by omega) q0
 replace f_q0 := Kw4.frzO (by omega) z_q f_q0
 replace q1 := Kw4.cell (by omega) q1
 replace f_q1 := Kw4.frzO (by omega) z_q f_q1
 replace y0 : w4.cell? ⟨w.heap.size + 1 + 1, 0, none⟩ = some (.slice d1 s.length f1) := by subst hW2; go_simp
 replace f_y0 : w4.frozen? ⟨w.heap.size + 1 + 1, 0, none⟩ = false := by subst hW2; first | (simp only [World.frozen?_setCell]; with_reducible assumption) | go_simp
 replace y1 : w4.cell? ⟨w.heap.size + 1 + 1, 1, none⟩ = some (.slice d2 t.length f2) := by subst hW2; go_simp
 replace f_y1 : w4.frozen? ⟨w.heap.size + 1 + 1, 1, none⟩ = false := by subst hW2; first | (simp only [World.frozen?_setCell]; with_reducible assumption) | go_simp
 replace i1 := i1.chg Kw4 (by omega)
 replace z1 := z1.chg Kw4 (by omega)
 replace i2 := i2.chg Kw4 (by omega)
 replace z2 := z2.chg Kw4 (by omega)
 clear Kw4
 have z_a : w.heap.size < w4.heap.size := qB a0
 have z_q : w.heap.size + 1 < w4.heap.size := qB q0
 have z_y : w.heap.size + 1 + 1 < w4.heap.size := qB y0
 have s_w4 : w.heap.size ≤ w4.heap.size := Xw4.size
 clear hW2
 generalize hW3 : ((w4.setCell ⟨w.heap.size + 1, 0, none⟩ (.slice d1 s.length f1)).setCell ⟨w.heap.size + 1, 1, none⟩ (.slice d2 t.length f2)) = w5 at *
 have Kw5 : Chg (w.heap.size + 1) (w.heap.size + 1 + 1) w4 w5 := by subst hW3; exact qCh
 have Xw5 : Ext w w5 := by subst hW3; exact qXt
 replace a0 := Kw5.cell (by omega) a0
 replace a1 := Kw5.cell (by omega) a1
 replace q0 : w5.cell? ⟨w.heap.size + 1, 0, none⟩ = some (.slice d1 s.length f1) := by subst hW3; go_simp
 replace f_q0 : w5.frozen? ⟨w.heap.size + 1, 0, none⟩ = false := by subst hW3; first | (simp only [World.frozen?_setCell]; with_reducible assumption) | go_simp
 replace q1 : w5.cell? ⟨w.heap.size + 1, 1, none⟩ = some (.slice d2 t.length f2) := by subst hW3; go_simp
 replace f_q1 : w5.frozen? ⟨w.heap.size + 1, 1, none⟩ = false := by subst hW3; first | (simp only [World.frozen?_setCell]; with_reducible assumption) | go_simp
 replace y0 := Kw5.cell (by omega) y0
 replace f_y0 := Kw5.frzO (by omega) z_y f_y0
 replace y1 := Kw5.cell (by omega) y1
 replace f_y1 := Kw5.frzO (by omega) z_y f_y1
 replace i1 := i1.chg Kw5 (by omega)
 replace z1 := z1.chg Kw5 (by omega)
 replace i2 := i2.chg Kw5 (by omega)
 replace z2 := z2.chg Kw5 (by omega)
 clear Kw5
 have z_a : w.heap.size < w5.heap.size := qB a0
 have z_q : w.heap.size + 1 < w5.heap.size := qB q0
 have z_y : w.heap.size + 1 + 1 < w5.heap.size := qB y0
 have s_w5 : w.heap.size ≤ w5.heap.size := Xw5.size
 clear hW3
 refine bodyPost_ret (v := .agg #[.slice d1 s.length f1, .slice d2 t.length f2]) (by simp only [results, Try.results96]; go_simp) rfl ?_
 exact ⟨_, _, rfl, i1.lower (by omega), i2.lower (by omega), z1.lower (by omega), z2.lower (by omega), hap.out, Xw5⟩

theorem OwnC.putT {w : World} {base E g n c : Nat} {L : List (List Value)} (h : OwnC w base E 2 (.slice (some ⟨g, 0, none⟩) n c) L) (hn : n = L.length) (i : Nat) (hi : i < L.length) (x0 x1 : Value) :
  OwnC ((w.setCell ⟨g, i * 2, none⟩ x0).setCell ⟨g, i * 2 + 1, none⟩ x1) base E 2 (.slice (some ⟨g, 0, none⟩) n c) (L.set i [x0, x1]) := by
 have hl : L[i].length = 2 := h.2 _ (List.getElem_mem hi)
 obtain ⟨y0, y1, hy⟩ : ∃ y0 y1, L[i] = [y0, y1] := by
  match hL : L[i], hl with
  | [a, b], _ => exact ⟨a, b, rfl⟩
 have r1 := h.setM (by simpa using hn) i 0 (by simpa using hi) (by omega) x0
 have r2 := r1.setM (by simpa using hn) i 1 (by simpa using hi) (by omega) x1
 simp only [List.getElem_set_self, List.set_set, hy] at r2
 exact r2
def PTens (w : World) (rs : List Ten) (e : Ending) (w' : World) : Prop := ∃ v, e = .returned v ∧ Tens w' w.heap.size v rs ∧ Ext w w'
theorem fillT_len (rs : List Ten) (k : Nat) (h : k ≤ rs.length) : (rs.take k ++ List.replicate (rs.length - k) noTen).length = rs.length := by simp; omega
theorem fillT_set (rs : List Ten) (k : Nat) (h : k < rs.length) : (rs.take k ++ List.replicate (rs.length - k) noTen).set k (tenAt rs k) = rs.take (k+1) ++ List.replicate (rs.length - (k+1)) noTen := by
 rw [take_tenAt h, show rs.length - k = (rs.length - (k+1)) + 1 by omega, List.replicate_succ]
 rw [List.set_append_right _ _ (by simp; omega), show k - (rs.take k).length = 0 by simp; omega, List.set_cons_zero, List.append_assoc]; rfl
theorem tenAt_rep (n i : Nat) : tenAt (List.replicate n noTen) i = noTen := by
 unfold tenAt
 rw [List.getD_eq_getElem?_getD, List.getElem?_replicate]
 split <;> rfl
theorem rowCT_rep (n : Nat) : rowCT (List.replicate n noTen) (fun _ => .slice none 0 0) = List.replicate n [.slice none 0 0, .slice none 0 0] := by
 refine List.ext_getElem (by rw [rowCT_len]; simp) fun i h1 h2 => ?_
 rw [rowCT_get, List.getElem_replicate, tenAt_rep]; rfl
theorem rowCT_put (rs : List Ten) (R : Nat → Value) (k : Nat) (hk : k < rs.length) (e : Ten) (u1 : Value) (u2 : Value) : rowCT (rs.set k e) (fun p => if p = 2 * k then u1 else if p = 2 * k + 1 then u2 else R p) = (rowCT rs R).set k (erowCT e u1 u2) := by
 refine List.ext_getElem (by rw [List.length_set, rowCT_len, rowCT_len, List.length_set]) fun j h1 h2 => ?_
 rw [rowCT_get, List.getElem_set, tenAt_set rs k e j hk]
 by_cases hj : k = j
 ·
  subst hj
  rw [if_pos rfl, if_pos rfl]
  simp only [if_true, if_neg (show ¬ 2 * k + 1 = 2 * k by omega)]
 ·
  rw [if_neg (show ¬ j = k by omega), if_neg hj, rowCT_get]
  simp only [if_neg (show ¬ 2 * j = 2 * k by omega), if_neg (show ¬ 2 * j = 2 * k + 1 by omega), if_neg (show ¬ 2 * j + 1 = 2 * k by omega), if_neg (show ¬ 2 * j + 1 = 2 * k + 1 by omega)]
set_option maxHeartbeats 3200000 in
theorem toTensorS_c (rs : List Ten) (v : Value) (w : World) (hv : RawT w v rs) (hl : rs.length ≤ 1048576) (hm : ∀ i, i < rs.length → (tenAt rs i).s.length ≤ 1048576 ∧ (tenAt rs i).t.length ≤ 1048576) :
  Calls Try.prog 36 #[v] w (PTens w rs) := by
 obtain ⟨a, cap, rfl, _, hc⟩ := hv
 obtain ⟨i0, hi, hz0, hz1, hz2⟩ := info_parts infoT
 go_enter Try.func36, Try.ntmps36
 go_wp2_with (at_make; refine wpList_make_full _ rfl _ _ 55 rfl w.heap.size 109 i0 (.agg #[.slice none 0 0, .slice none 0 0]) 2 Try.underlying55 hi hz0 hz1 .i64 .i64 _ _ rs.length rfl rfl rfl rfl (by rw [hz2]; omega) (by unfold maxLen; omega) (Nat.le_refl _) ?_)
 intro w1 hown hgr
 have hx : Ext w w1 := (Ext.refl w).grown hgr (by simp)
 have hE : OwnC w1 w.heap.size 109 2 (.slice (some ⟨w.heap.size, 0, none⟩) rs.length rs.length) (rowCT (List.replicate rs.length noTen) (fun _ => .slice none 0 0)) := by
  have e := made_flatM [.slice none 0 0, .slice none 0 0] 2 rfl (by omega) rs.length
  change (madeCells #[.slice none 0 0, .slice none 0 0] (rs.length * 2)).toList = _ at e
  refine ⟨?_, rowCT_all _ _⟩
  rw [rowCT_rep, List.length_replicate, ← e]
  exact hown
 have hE2 : OwnC w1 w.heap.size 109 2 (.slice (some ⟨w.heap.size, 0, none⟩) rs.length rs.length) (rowCT (rs.take 0 ++ List.replicate (rs.length - 0) noTen) (fun _ => .slice none 0 0)) := by simpa using hE
 clear hgr hown hi hz0 hz1 hz2 hE
 go_wp2_with fail
 go_loopw [4] (fun i wr => ∃ (k : Nat) (R : Nat → Value), k ≤ rs.length ∧ i = .int .i64 k ∧ OwnC wr w.heap.size 109 2 (.slice (some ⟨w.heap.size, 0, none⟩) rs.length rs.length) (rowCT (rs.take k ++ List.replicate (rs.length - k) noTen) R) ∧ Hid (∀ i, i < k → Ints wr (w.heap.size + 1) (R (2 * i)) (tenAt rs i).s ∧ Ints wr (w.heap.size + 1) (R (2 * i + 1)) (tenAt rs i).t) ∧ Ext w wr) (fun i _ => rs.length - (intOf i).toNat)
 case atStart => exact ⟨0, _, Nat.zero_le _, rfl, hE2, Lib.hid (fun i h => absurd h (Nat.not_lt_zero _)), hx⟩
 case round =>
  clear hE2 hx
  obtain ⟨k, R, hk, rfl, hE, hN, Xr⟩ := hrel
  by_cases hlt : k < rs.length
  ·
   have hkI : (k : Int) < rs.length := by omega
   obtain ⟨bl, off, u1, c1, u2, c2, rfl, k0, k1, r1, r2, -⟩ := hc k hlt
   have hm1 := hm k hlt
   replace k0 := Xr.cell k0
   replace k1 := Xr.cell k1
   replace r1 := r1.ext Xr
   replace r2 := r2.ext Xr
   clear hc hm
   have hfl := fillT_len rs k hk
   have hgw : w.heap.size < wr.heap.size := (hE.blkM _ rfl).2
   go_wp2_with fail
   refine (toTensor_c (tenAt rs k) _ _ _ _ _ (r1.ext qXt) (r2.ext qXt) (by omega) (by omega)).mono ?_
   rintro e w2 ⟨u1, u2, rfl, j1, j2, -, -, -, x2⟩
   have E2 : Ext wr w2 := Ext.trans qXt x2
   have X2 : Ext w w2 := Xr.trans E2
   replace j1 := j1.lower (lo' := w.heap.size + 1) (by first | omega | (simp; omega))
   replace j2 := j2.lower (lo' := w.heap.size + 1) (by first | omega | (simp; omega))
   obtain ⟨d1, f1, rfl⟩ := j1.form
   obtain ⟨d2, f2, rfl⟩ := j2.form
   replace hE := hE.ext E2
   have hcl := fun j hj => hE.cellM (by rw [rowCT_len]; exact hfl.symm) k j (by rw [rowCT_len]; omega) hj
   have g0 := (hcl 0 (by omega)).1
   have f_0 := (hcl 0 (by omega)).2
   have g1 := (hcl 1 (by omega)).1
   have f_1 := (hcl 1 (by omega)).2
   simp only [Nat.add_zero] at g0 f_0
   rw [rowCT_get] at g0 g1
   simp only [erowCT, List.getElem?_cons_zero, List.getElem?_cons_succ] at g0 g1
   generalize (tenAt (rs.take k ++ List.replicate (rs.length - k) noTen) k) = Z at g0 g1
   generalize R (2 * k) = Z1 at g0
   generalize R (2 * k + 1) = Z2 at g1
   have hp := OwnC.putT hE (by rw [rowCT_len]; exact hfl.symm) k (by rw [rowCT_len]; omega) (.slice d1 (tenAt rs k).s.length f1) (.slice d2 (tenAt rs k).t.length f2)
   have hq := rowCT_put (rs.take k ++ List.replicate (rs.length - k) noTen) R k (by omega) (tenAt rs k) (.slice d1 (tenAt rs k).s.length f1) (.slice d2 (tenAt rs k).t.length f2)
   rw [fillT_set rs k hlt] at hq
   rw [show [.slice d1 (tenAt rs k).s.length f1, .slice d2 (tenAt rs k).t.length f2] = erowCT (tenAt rs k) (.slice d1 (tenAt rs k).s.length f1) (.slice d2 (tenAt rs k).t.length f2) from rfl, ← hq] at hp
   replace hp := Lib.hid hp
   have hK : Chg (w.heap.size) (w.heap.size + 1) w2 ((w2.setCell ⟨w.heap.size, k * 2, none⟩ (.slice d1 (tenAt rs k).s.length f1)).setCell ⟨w.heap.size, k * 2 + 1, none⟩ (.slice d2 (tenAt rs k).t.length f2)) := qCh
   have hN2 : Hid (∀ i, i < k + 1 → Ints ((w2.setCell ⟨w.heap.size, k * 2, none⟩ (.slice d1 (tenAt rs k).s.length f1)).setCell ⟨w.heap.size, k * 2 + 1, none⟩ (.slice d2 (tenAt rs k).t.length f2)) (w.heap.size + 1) ((fun p => if p = 2 * k then (.slice d1 (tenAt rs k).s.length f1) else if p = 2 * k + 1 then (.slice d2 (tenAt rs k).t.length f2) else R p) (2 * i)) (tenAt rs i).s ∧ Ints ((w2.setCell ⟨w.heap.size, k * 2, none⟩ (.slice d1 (tenAt rs k).s.length f1)).setCell ⟨w.heap.size, k * 2 + 1, none⟩ (.slice d2 (tenAt rs k).t.length f2)) (w.heap.size + 1) ((fun p => if p = 2 * k then (.slice d1 (tenAt rs k).s.length f1) else if p = 2 * k + 1 then (.slice d2 (tenAt rs k).t.length f2) else R p) (2 * i + 1)) (tenAt rs i).t) := Lib.hid (fun i hi => by
    by_cases hik : i < k
    ·
     have h7 := hN.out i hik
     dsimp only
     rw [if_neg (by omega), if_neg (by omega), if_neg (by omega), if_neg (by omega)]
     exact ⟨((h7.1).ext E2).chg hK (Nat.le_refl _), ((h7.2).ext E2).chg hK (Nat.le_refl _)⟩
    ·
     obtain rfl : i = k := by omega
     dsimp only
     rw [if_pos rfl, if_neg (by omega), if_pos rfl]
     exact ⟨j1.chg hK (Nat.le_refl _), j2.chg hK (Nat.le_refl _)⟩)
   clear hq hcl hE hK hN hm1
   go_wp2_with fail
   go_roundw
   case rel => exact ⟨k + 1, _, by omega, by go_num, hp.out, hN2, qXt⟩
   case measure => simp [intOf]; omega
  ·
   obtain rfl : k = rs.length := by omega
   go_wp2_with fail
   go_ret
   simp only [List.take_length, Nat.sub_self, List.replicate_zero, List.append_nil] at hE
   exact ⟨_, rfl, Tens.ofRow hE hN.out hl _ (Nat.le_refl _) (Nat.le_succ _), Xr⟩
set_option maxHeartbeats 1600000 in
theorem eqTensor_c (x : Ten) (u1 v1 u2 v2 : Value) (w : World) (l1 l2 l3 l4 : Nat) (h1 : Ints w l1 u1 x.s) (h2 : Ints w l2 v1 x.t) (h3 : Ints w l3 u2 x.s) (h4 : Ints w l4 v2 x.t) :
  Calls Try.prog 101 #[.agg #[u1, v1], .agg #[u2, v2]] w fun e w' => e = .returned (.bool true) ∧ Ext w w' := by
 obtain ⟨s, t⟩ := x
 dsimp only at h1 h2 h3 h4
 obtain ⟨a1, c1, rfl⟩ := h1.form
 obtain ⟨a2, c2, rfl⟩ := h2.form
 obtain ⟨a3, c3, rfl⟩ := h3.form
 obtain ⟨a4, c4, rfl⟩ := h4.form
 go_enter Try.func101, Try.ntmps101
 go_wp2_with fail
 refine (eqIntS_x s _ _ _ _ _ (h1.ext qXt) (h3.ext qXt)).mono ?_
 rintro e w1 ⟨rfl, x1⟩
 have X1 : Ext w w1 := Ext.trans qXt x1
 have k0 : w1.cell? ⟨w.heap.size, 1, none⟩ = some (.slice a2 t.length c2) := x1.cell qCl
 have k1 : w1.cell? ⟨w.heap.size + 1, 1, none⟩ = some (.slice a4 t.length c4) := x1.cell qCl
 replace h2 := h2.ext X1
 replace h4 := h4.ext X1
 clear x1 h1 h3
 go_wp2_with fail
 refine (eqIntS_x t _ _ _ _ _ (h2.ext qXt) (h4.ext qXt)).mono ?_
 rintro e w2 ⟨rfl, x2⟩
 have X2 : Ext w w2 := X1.trans (Ext.trans qXt x2)
 go_wp2_with fail
 go_ret
 exact ⟨rfl, X2.trans qXt⟩
set_option maxHeartbeats 1600000 in
theorem eqTensorS_c (rs : List Ten) (v1 v2 : Value) (w : World) (l1 l2 : Nat) (h1 : Tens w l1 v1 rs) (h2 : Tens w l2 v2 rs) :
  Calls Try.prog 41 #[v1, v2] w fun e w' => e = .returned (.bool true) ∧ Ext w w' := by
 obtain ⟨a1, c1, rfl⟩ := h1.form
 obtain ⟨a2, c2, rfl⟩ := h2.form
 have hl := h1.len
 go_enter Try.func41, Try.ntmps41
 go_wp2_with fail
 go_loopw [5] (fun i wr => ∃ (k : Nat), k ≤ rs.length ∧ i = .int .i64 k ∧ Ext w wr) (fun i _ => rs.length - (intOf i).toNat)
 case atStart => exact ⟨0, Nat.zero_le _, rfl, qXt⟩
 case round =>
  obtain ⟨k, hk, rfl, Xr⟩ := hrel
  by_cases hlt : k < rs.length
  ·
   have hkI : (k : Int) < rs.length := by omega
   obtain ⟨b1, o1, u1, d1, u2, d2, rfl, x0, x1, i1, i2⟩ := (h1.ext Xr).at k hlt
   obtain ⟨b2, o2, u3, d3, u4, d4, rfl, y0, y1, i3, i4⟩ := (h2.ext Xr).at k hlt
   clear h1 h2
   replace i1 := Lib.hid i1
   replace i2 := Lib.hid i2
   replace i3 := Lib.hid i3
   replace i4 := Lib.hid i4
   go_wp2_with fail
   go_region_with (first
    | (go_at_call 101; refine (eqTensor_c (tenAt rs k) _ _ _ _ _ _ _ _ _ (i1.out.ext qXt) (i2.out.ext qXt) (i3.out.ext qXt) (i4.out.ext qXt)).mono ?_; rintro e w1 ⟨rfl, x⟩; have X1 : Ext w w1 := Xr.trans (Ext.trans qXt x)))
   all_goals (
    go_wp2_with fail
    go_roundw
    case rel => exact ⟨k + 1, by omega, by go_num, X1⟩
    case measure => simp [intOf]; omega)
  ·
   obtain rfl : k = rs.length := by omega
   go_wp2_with fail
   go_ret
   exact ⟨rfl, Xr⟩

end Go.Proofs.Ytfbbnbpobojboaa

/- What the arguments of a law read as, when they are opened: lists of records (Tensor). No condition. -/
namespace Go.Proofs.Ytfbbnbpobojboaa
open Go.ChangeShapes Go.WideShapes Go.ChangeAt Go.RowKit Go.Joins
set_option linter.unusedVariables false
set_option maxRecDepth 100000

abbrev LTT : TypeId := 105
section
variable {H : Type} {enc : TypeId × Value → H} {w : World} {base : Nat} {spare : Nat → Bool} {held : Bool} {fuel : Nat}
theorem trod_struct2M {P : Program} {t : TypeId} {f0 f1 : Field} {cs : List Value} {x : DataW H × List MemPlace} (ht : P.underlying t = some (.struct #[f0, f1])) (h : DataW.trod enc P w base spare held fuel t cs = some x) :
    ∃ y0 y1 n, cs.length = P.cellsOf t ∧ DataW.trod enc P w base spare held n f0.type ((cs.drop f0.offset).take (P.cellsOf f0.type)) = some y0 ∧ DataW.trod enc P w base spare held n f1.type ((cs.drop f1.offset).take (P.cellsOf f1.type)) = some y1 := by
  obtain ⟨xs, n, _, rfl, hl, hlen, hf⟩ := DataW.trod_struct ht h
  match xs, hlen with
  | [y0, y1], _ => exact ⟨y0, y1, n, hl, by simpa using hf 0 f0 rfl, by simpa using hf 1 f1 rfl⟩
theorem open_elT {cs : List Value} {x : DataW H × List MemPlace} (h : DataW.trod enc Try.prog w base spare held fuel LTT cs = some x) (hn : cs.length = 2) :
    ∃ (e : Ten) (u1 : Option Addr) (c1 : Nat) (u2 : Option Addr) (c2 : Nat), cs = [.slice u1 e.s.length c1, .slice u2 e.t.length c2] ∧ RawIn w (.slice u1 e.s.length c1) e.s ∧ RawIn w (.slice u2 e.t.length c2) e.t := by
  obtain ⟨y0, y1, n, -, h0, h1⟩ := trod_struct2M Try.underlying105 h
  have hs : Try.prog.cellsOf 22 = 1 := by kernel_rfl
  match cs, hn with
  | [v0, v1], _ =>
    dsimp only at h0 h1
    rw [hs] at h0 h1
    obtain ⟨s, hx⟩ := open_rawInts (v := v0) h0
    obtain ⟨t, hy⟩ := open_rawInts (v := v1) h1
    obtain ⟨u1, c1, rfl⟩ := hx.form
    obtain ⟨u2, c2, rfl⟩ := hy.form
    exact ⟨⟨s, t⟩, u1, c1, u2, c2, rfl, hx, hy⟩
/-- the records that came in -/
theorem open_rawT {v : Value} {x : DataW H × List MemPlace} (hf : DataW.trod enc Try.prog w base spare held fuel 50 [v] = some x) : ∃ rs, RawT w v rs ∧ rs.length ≤ maxLen := by
  rcases Deep.open_slice Try.underlying50 hf with ⟨hcs, _⟩ | ⟨a, len, cap, m, n, D, Pl, hcs, -, hlc, hcm, hm, -, hel⟩
  · simp at hcs; subst hcs
    exact ⟨[], ⟨none, 0, rfl, fun _ => rfl, fun i hi => absurd hi (by simp)⟩, by simp⟩
  · simp at hcs; subst hcs
    have hlm : len ≤ m := by rw [hm]; split <;> omega
    have hc : Try.prog.cellsOf LTT = 2 := by kernel_rfl
    have each : ∀ i, i < len → ∃ e : Ten, ∃ u1 c1 u2 c2, a.spot = none ∧ w.cell? ⟨a.block, a.off + i * 2, none⟩ = some (.slice u1 e.s.length c1) ∧ w.cell? ⟨a.block, a.off + i * 2 + 1, none⟩ = some (.slice u2 e.t.length c2) ∧ RawIn w (.slice u1 e.s.length c1) e.s ∧ RawIn w (.slice u2 e.t.length c2) e.t := by
      intro i hi
      obtain ⟨cs', h1, h2⟩ := hel i (by omega)
      rw [hc] at h1
      obtain ⟨-, hlen, hcell⟩ := World.cells?_some h1
      obtain ⟨e, u1, c1, u2, c2, rfl, hx1, hx2⟩ := open_elT h2 hlen
      have k0 := hcell 0 (by simp)
      have k1 := hcell 1 (by simp)
      obtain ⟨b, off, spot⟩ := a
      rw [Deep.add_add] at k0 k1
      have hspot : spot = none := by
        obtain ⟨cs0, p1, p2⟩ := hel 0 (by omega)
        rw [hc] at p1
        obtain ⟨-, hl0, hcell0⟩ := World.cells?_some p1
        obtain ⟨e0, a1, b1, a2, b2, rfl, -⟩ := open_elT p2 hl0
        have k9 := hcell0 0 (by omega)
        rw [Deep.add_add] at k9
        have k8 : w.cell? ((⟨b, off, spot⟩ : Addr).add 0) = some (.slice a1 e0.s.length b1) := by simpa using k9
        have k7 := World.cell?_spot k8
        simpa [Addr.add] using k7
      subst hspot
      have e7 : ∀ j, (⟨b, off, none⟩ : Addr).add j = ⟨b, off + j, none⟩ := fun j => by unfold Addr.add; split <;> simp_all
      rw [e7] at k0 k1
      exact ⟨e, u1, c1, u2, c2, rfl, by simpa [Nat.add_assoc] using k0, by simpa [Nat.add_assoc] using k1, hx1, hx2⟩
    haveI : Inhabited Ten := ⟨noTen⟩
    obtain ⟨f, hF⟩ := Deep.choose_lt each
    have hl : ((List.range len).map f).length = len := by simp
    have hg : ∀ i, i < len → tenAt ((List.range len).map f) i = f i := fun i hi => by
      rw [tenAt_get (by rw [hl]; exact hi)]; simp
    refine ⟨(List.range len).map f, ⟨some a, cap, by rw [hl], (fun h => by cases h), fun i hi => ?_⟩, by rw [hl]; omega⟩
    rw [hl] at hi
    rw [hg i hi]
    obtain ⟨u1, c1, u2, c2, hsp, k0, k1, hx1, hx2⟩ := hF i hi
    obtain ⟨b, off, spot⟩ := a
    cases hsp
    exact ⟨b, off, u1, c1, u2, c2, rfl, k0, k1, hx1.1, hx2.1, hx1.2, hx2.2⟩
end

end Go.Proofs.Ytfbbnbpobojboaa

/- Words for memory: lists of records (IntS). No condition. -/
namespace Go.Proofs.Ytfbbnbpobojboaa
open Go.RowKit
set_option linter.unusedVariables false
set_option maxRecDepth 100000

/-- a record -/
structure Lst where
  s : List Int
def noLst : Lst := ⟨[]⟩
def lstAt (rs : List Lst) (i : Nat) : Lst := rs.getD i noLst
theorem lstAt_get {rs : List Lst} {i : Nat} (h : i < rs.length) : lstAt rs i = rs[i] := by unfold lstAt; simp [h]
theorem lstAt_set (rs : List Lst) (i : Nat) (e : Lst) (j : Nat) (hi : i < rs.length) : lstAt (rs.set i e) j = if j = i then e else lstAt rs j := by
  unfold lstAt
  rw [List.getD_eq_getElem?_getD, List.getElem?_set, List.getD_eq_getElem?_getD]
  by_cases h : i = j
  · subst h; simp [hi]
  · rw [if_neg h, if_neg (by omega)]
theorem take_lstAt {rs : List Lst} {k : Nat} (h : k < rs.length) : rs.take (k+1) = rs.take k ++ [lstAt rs k] := by rw [List.take_succ_eq_append_getElem h, lstAt_get h]
/-- the slice value v reads as the records rs; its cells, and their rows', lie in blocks from lo on -/
def Lsts (w : World) (lo : Nat) (v : Value) (rs : List Lst) : Prop :=
  ∃ a cap, v = .slice a rs.length cap ∧ rs.length ≤ cap ∧ cap ≤ maxLen ∧ (rs.length ≤ 1048576 ∧ (a = none → cap = 0)) ∧
    ∀ i, i < rs.length → ∃ bl off u1 c1, a = some ⟨bl, off, none⟩ ∧ lo ≤ bl ∧ w.cell? ⟨bl, off + i, none⟩ = some (.slice u1 (lstAt rs i).s.length c1) ∧ Ints w lo (.slice u1 (lstAt rs i).s.length c1) (lstAt rs i).s
section
variable {w w' : World} {lo lo' : Nat} {v : Value} {rs : List Lst}
theorem Lsts.ext (h : Lsts w lo v rs) (hx : Ext w w') : Lsts w' lo v rs := by
  obtain ⟨a, cap, hv, h1, h2, h3, h4⟩ := h
  refine ⟨a, cap, hv, h1, h2, h3, fun i hi => ?_⟩
  obtain ⟨bl, off, u1, c1, ha, hl, k0, j1⟩ := h4 i hi
  exact ⟨bl, off, u1, c1, ha, hl, hx.cell k0, j1.ext hx⟩
theorem Lsts.lower (h : Lsts w lo v rs) (hl : lo' ≤ lo) : Lsts w lo' v rs := by
  obtain ⟨a, cap, hv, h1, h2, h3, h4⟩ := h
  refine ⟨a, cap, hv, h1, h2, h3, fun i hi => ?_⟩
  obtain ⟨bl, off, u1, c1, ha, hb, k0, j1⟩ := h4 i hi
  exact ⟨bl, off, u1, c1, ha, by omega, k0, j1.lower hl⟩
theorem Lsts.chg {l h' : Nat} (h : Lsts w lo v rs) (k : Chg l h' w w') (hb : h' ≤ lo) : Lsts w' lo v rs := by
  obtain ⟨a, cap, hv, h1, h2, h3, h4⟩ := h
  refine ⟨a, cap, hv, h1, h2, h3, fun i hi => ?_⟩
  obtain ⟨bl, off, u1, c1, ha, hb', k0, j1⟩ := h4 i hi
  exact ⟨bl, off, u1, c1, ha, hb', k.cell (.inr (by omega)) k0, j1.chg k hb⟩
theorem Lsts.form (h : Lsts w lo v rs) : ∃ a c, v = .slice a rs.length c := by obtain ⟨a, cap, rfl, _⟩ := h; exact ⟨_, _, rfl⟩
theorem Lsts.len (h : Lsts w lo v rs) : rs.length ≤ 1048576 := by obtain ⟨_, _, _, _, _, ⟨h, _⟩, _⟩ := h; exact h
theorem Lsts.nil (w : World) (lo : Nat) : Lsts w lo (.slice none 0 0) [] := ⟨none, 0, rfl, by simp, by simp, ⟨by simp, fun _ => rfl⟩, fun i hi => absurd hi (by simp)⟩
/-- the cells of one record -/
theorem Lsts.at {a : Option Addr} {n c : Nat} (h : Lsts w lo (.slice a n c) rs) (i : Nat) (hi : i < rs.length) : ∃ bl off u1 c1, a = some ⟨bl, off, none⟩ ∧ w.cell? ⟨bl, off + i, none⟩ = some (.slice u1 (lstAt rs i).s.length c1) ∧ Ints w lo (.slice u1 (lstAt rs i).s.length c1) (lstAt rs i).s := by
  obtain ⟨a', cap, hv, h1, h2, h3, h4⟩ := h
  cases hv
  obtain ⟨bl, off, u1, c1, ha, hb, k⟩ := h4 i hi
  exact ⟨bl, off, u1, c1, ha, k⟩
end
def erowCL (e : Lst) (u1 : Value) : List Value := [u1]
def rowCL (rs : List Lst) (R : Nat → Value) : List (List Value) := (List.range rs.length).map fun i => erowCL (lstAt rs i) (R (i))
theorem rowCL_len (rs : List Lst) (R : Nat → Value) : (rowCL rs R).length = rs.length := by simp [rowCL]
theorem rowCL_get (rs : List Lst) (R : Nat → Value) (i : Nat) (h : i < (rowCL rs R).length) : (rowCL rs R)[i] = erowCL (lstAt rs i) (R (i)) := by simp [rowCL]
theorem infoL : (Try.prog.info? 22).map (fun i => (i.zero, i.size, i.bytes)) = some (some (.slice none 0 0), 1, 24) := by kernel_rfl
/-- a row of records can be read -/
theorem Lsts.ofRow {w : World} {lo lo2 : Nat} {rs : List Lst} {R : Nat → Value} {g r : Nat} (h : OwnC w lo 22 1 (.slice (some ⟨g, 0, none⟩) rs.length r) (rowCL rs R)) (hn : ∀ i, i < rs.length → Ints w lo2 (R i) (lstAt rs i).s) (hl : rs.length ≤ 1048576) (lo3 : Nat) (h3 : lo3 ≤ lo) (h4 : lo3 ≤ lo2) : Lsts w lo3 (.slice (some ⟨g, 0, none⟩) rs.length r) rs := by
  have e1 : (.slice (some ⟨g, 0, none⟩) rs.length r : Value) = .slice (some ⟨g, 0, none⟩) (rowCL rs R).length r := by rw [rowCL_len]
  have hb := (h.blkM g rfl).1
  by_cases he : rs = []
  · subst he
    obtain ⟨hr, -⟩ := h
    rcases hr.2 with ⟨h0, _⟩ | ⟨g', cap, cur, hv, hb, hh, h1, h2, _⟩
    · cases h0
    · cases hv
      exact ⟨_, r, rfl, by simp, h2, ⟨by simp, fun h => by cases h⟩, fun i hi => absurd hi (by simp)⟩
  · have hb2 := h.lt (by intro h0; have := rowCL_len rs R; rw [h0] at this; exact he (List.eq_nil_of_length_eq_zero this.symm))
    obtain ⟨g', c', hv, -, -, -, hc, hm⟩ := hb2
    rw [rowCL_len] at hv hc
    cases hv
    refine ⟨_, r, rfl, hc, hm, ⟨hl, fun h => by cases h⟩, fun i hi => ?_⟩
    rw [e1] at h
    have k := fun j (hj : j < 1) => (h.cell i j (by rw [rowCL_len]; exact hi) hj).1
    rw [rowCL_get] at k
    have j1 := hn i hi
    obtain ⟨u1, c1, e1⟩ := j1.form
    rw [e1] at j1
    refine ⟨g, 0, u1, c1, rfl, by omega, ?_, j1.lower h4⟩
    · have := k 0 (by omega); rw [Nat.mul_one, Nat.add_zero] at this; rw [Nat.zero_add]; rw [← e1]; exact this
theorem rowCL_all (rs : List Lst) (R : Nat → Value) : ∀ c ∈ rowCL rs R, c.length = 1 := fun c hc => by
  unfold rowCL at hc
  obtain ⟨i, -, rfl⟩ := List.mem_map.1 hc
  rfl

end Go.Proofs.Ytfbbnbpobojboaa

/- Walks of the laws' own helpers: lists of records (IntS). -/
namespace Go.Proofs.Ytfbbnbpobojboaa
open Go.RowKit
set_option linter.unusedVariables false
set_option maxRecDepth 100000

/-- a slice of records that came in -/
def RawL (w : World) (v : Value) (rs : List Lst) : Prop :=
  ∃ a cap, v = .slice a rs.length cap ∧ (a = none → cap = 0) ∧
    ∀ i, i < rs.length → ∃ bl off u1 c1, a = some ⟨bl, off, none⟩ ∧ w.cell? ⟨bl, off + i, none⟩ = some (.slice u1 (lstAt rs i).s.length c1) ∧ Raw w (.slice u1 (lstAt rs i).s.length c1) (lstAt rs i).s ∧ (lstAt rs i).s.length ≤ maxLen
theorem RawL.ext {w w' : World} {v : Value} {rs : List Lst} (h : RawL w v rs) (hx : Ext w w') : RawL w' v rs := by
  obtain ⟨a, cap, hv, h3, h4⟩ := h
  refine ⟨a, cap, hv, h3, fun i hi => ?_⟩
  obtain ⟨bl, off, u1, c1, ha, k0, j1, m⟩ := h4 i hi
  exact ⟨bl, off, u1, c1, ha, hx.cell k0, j1.ext hx, m⟩
theorem RawL.form {w : World} {v : Value} {rs : List Lst} (h : RawL w v rs) : ∃ a cap, v = .slice a rs.length cap := by
  obtain ⟨a, cap, hv, _⟩ := h; exact ⟨a, cap, hv⟩
/-- the numbers in the rows of the first k records -/
def sizeL (rs : List Lst) : Nat → Nat
  | 0 => 0
  | k + 1 => sizeL rs k + ((lstAt rs k).s.length)
theorem sizeL_le (rs : List Lst) (i k : Nat) (h : i < k) : (lstAt rs i).s.length ≤ sizeL rs k := by
  induction k with
  | zero => omega
  | succ k ih =>
    unfold sizeL
    by_cases hk : i = k
    · subst hk; omega
    · have := ih (by omega); omega
theorem sz1L_c (a1 : Option Addr) (n1 c1 : Nat) (left : Int) (w : World) (h0 : 0 ≤ left) (h1 : left ≤ 1048576) (m1 : n1 ≤ maxLen) :
    Calls Try.prog 59 #[.slice a1 n1 c1, .int .i64 left] w (PLeftM (n1) left w) := by
  refine (szIntS_c a1 n1 c1 left _ h0 h1 m1).mono ?_
  rintro e w1 ⟨rfl, rfl⟩
  have g1 := szN_ge left n1
  exact ⟨_, rfl, by omega, by omega, fun h => by omega, Ext.refl _⟩
set_option maxHeartbeats 1600000 in
theorem szIntSS_c (rs : List Lst) (v : Value) (left : Int) (w : World) (hv : RawL w v rs) (h0 : 0 ≤ left) (h1 : left ≤ 1048576) (hm : rs.length ≤ maxLen) :
    Calls Try.prog 34 #[v, .int .i64 left] w (PLeftM (rs.length + sizeL rs rs.length) left w) := by
  obtain ⟨a, cap, rfl, _, hc⟩ := hv
  unfold maxLen at hm
  go_enter Try.func34, Try.ntmps34
  by_cases hq : left - rs.length < 0
  · go_wp2_with fail
    go_ret
    exact ⟨-1, rfl, by omega, by omega, fun h => by omega, qXt⟩
  · go_wp2_with fail
    go_loopw [1, 5] (fun l i wr => ∃ (k : Nat) (L : Int), k ≤ rs.length ∧ i = .int .i64 k ∧ l = .int .i64 L ∧ 0 ≤ L ∧ ((rs.length + sizeL rs k : Nat) : Int) + L = left ∧ Ext w wr) (fun _ i _ => rs.length - (intOf i).toNat)
    case atStart => exact ⟨0, left - rs.length, Nat.zero_le _, rfl, rfl, by omega, by unfold sizeL; omega, qXt⟩
    case round =>
      obtain ⟨k, L, hk, rfl, rfl, hL, hs, Xr⟩ := hrel
      by_cases hlt : k < rs.length
      · have hkI : (k : Int) < rs.length := by omega
        obtain ⟨bl, off, u1, c1, rfl, k0, j1, m1⟩ := hc k hlt
        replace k0 := Xr.cell k0
        clear hc j1
        have hse : sizeL rs (k+1) = sizeL rs k + ((lstAt rs k).s.length) := rfl
        go_wp2_with fail
        refine (sz1L_c _ _ _ L _ hL (by omega) m1).mono ?_
        rintro e w1 ⟨L1, rfl, q1, q2, q3, x1⟩
        have X1 : Ext w w1 := Xr.trans (Ext.trans qXt x1)
        by_cases hn : L1 < 0
        · go_wp2_with fail
          go_ret
          exact ⟨-1, rfl, by omega, by omega, fun h => by omega, X1⟩
        · have q4 := q3 (by omega)
          go_wp2_with fail
          go_roundw
          case rel => exact ⟨k+1, L1, by omega, by go_num, rfl, by omega, by rw [hse]; omega, X1⟩
          case measure => simp [intOf]; omega
      · obtain rfl : k = rs.length := by omega
        go_wp2_with fail
        go_ret
        exact ⟨L, rfl, by omega, by omega, fun _ => hs, Xr⟩
theorem OwnC.putL {w : World} {base E g n c : Nat} {L : List (List Value)} (h : OwnC w base E 1 (.slice (some ⟨g, 0, none⟩) n c) L) (hn : n = L.length) (i : Nat) (hi : i < L.length) (x0 : Value) :
    OwnC (w.setCell ⟨g, i, none⟩ x0) base E 1 (.slice (some ⟨g, 0, none⟩) n c) (L.set i [x0]) := by
  have hl : L[i].length = 1 := h.2 _ (List.getElem_mem hi)
  obtain ⟨y0, hy⟩ : ∃ y0, L[i] = [y0] := by
    match hL : L[i], hl with
    | [a], _ => exact ⟨a, rfl⟩
  have r1 := h.setM (by simpa using hn) i 0 (by simpa using hi) (by omega) x0
  simp only [List.getElem_set_self, List.set_set, hy, Nat.mul_one, Nat.add_zero] at r1
  exact r1
def PLsts (w : World) (rs : List Lst) (e : Ending) (w' : World) : Prop := ∃ v, e = .returned v ∧ Lsts w' w.heap.size v rs ∧ Ext w w'
theorem fillL_len (rs : List Lst) (k : Nat) (h : k ≤ rs.length) : (rs.take k ++ List.replicate (rs.length - k) noLst).length = rs.length := by simp; omega
theorem fillL_set (rs : List Lst) (k : Nat) (h : k < rs.length) : (rs.take k ++ List.replicate (rs.length - k) noLst).set k (lstAt rs k) = rs.take (k+1) ++ List.replicate (rs.length - (k+1)) noLst := by
  rw [take_lstAt h, show rs.length - k = (rs.length - (k+1)) + 1 by omega, List.replicate_succ]
  rw [List.set_append_right _ _ (by simp; omega), show k - (rs.take k).length = 0 by simp; omega, List.set_cons_zero, List.append_assoc]; rfl
theorem lstAt_rep (n i : Nat) : lstAt (List.replicate n noLst) i = noLst := by
  unfold lstAt
  rw [List.getD_eq_getElem?_getD, List.getElem?_replicate]
  split <;> rfl
theorem rowCL_rep (n : Nat) : rowCL (List.replicate n noLst) (fun _ => .slice none 0 0) = List.replicate n [.slice none 0 0] := by
  refine List.ext_getElem (by rw [rowCL_len]; simp) fun i h1 h2 => ?_
  rw [rowCL_get, List.getElem_replicate, lstAt_rep]; rfl
theorem rowCL_put (rs : List Lst) (R : Nat → Value) (k : Nat) (hk : k < rs.length) (e : Lst) (u1 : Value) : rowCL (rs.set k e) (fun p => if p = k then u1 else R p) = (rowCL rs R).set k (erowCL e u1) := by
  refine List.ext_getElem (by rw [List.length_set, rowCL_len, rowCL_len, List.length_set]) fun j h1 h2 => ?_
  rw [rowCL_get, List.getElem_set, lstAt_set rs k e j hk]
  by_cases hj : k = j
  · subst hj
    rw [if_pos rfl, if_pos rfl]
    simp only [if_true]
  · rw [if_neg (show ¬ j = k by omega), if_neg hj, rowCL_get]
    simp only [if_neg (show ¬ j = k by omega)]
set_option maxHeartbeats 3200000 in
theorem toIntSS_c (rs : List Lst) (v : Value) (w : World) (hv : RawL w v rs) (hl : rs.length ≤ 1048576) (hm : ∀ i, i < rs.length → (lstAt rs i).s.length ≤ 1048576) :
    Calls Try.prog 37 #[v] w (PLsts w rs) := by
  obtain ⟨a, cap, rfl, _, hc⟩ := hv
  obtain ⟨i0, hi, hz0, hz1, hz2⟩ := info_parts infoL
  go_enter Try.func37, Try.ntmps37
  go_wp2_with (at_make; refine wpList_make_full _ rfl _ _ 51 rfl w.heap.size 22 i0 (.slice none 0 0) 1 Try.underlying51 hi hz0 hz1 .i64 .i64 _ _ rs.length rfl rfl rfl rfl (by rw [hz2]; omega) (by unfold maxLen; omega) (Nat.le_refl _) ?_)
  intro w1 hown hgr
  have hx : Ext w w1 := (Ext.refl w).grown hgr (by simp)
  have hE : OwnC w1 w.heap.size 22 1 (.slice (some ⟨w.heap.size, 0, none⟩) rs.length rs.length) (rowCL (List.replicate rs.length noLst) (fun _ => .slice none 0 0)) := by
    have e := made_flatM [.slice none 0 0] 1 rfl (by omega) rs.length
    change (madeCells #[.slice none 0 0] (rs.length * 1)).toList = _ at e
    rw [Nat.mul_one] at e
    refine ⟨?_, rowCL_all _ _⟩
    rw [rowCL_rep, List.length_replicate, ← e]
    exact hown
  have hE2 : OwnC w1 w.heap.size 22 1 (.slice (some ⟨w.heap.size, 0, none⟩) rs.length rs.length) (rowCL (rs.take 0 ++ List.replicate (rs.length - 0) noLst) (fun _ => .slice none 0 0)) := by simpa using hE
  clear hgr hown hi hz0 hz1 hz2 hE
  go_wp2_with fail
  go_loopw [4] (fun i wr => ∃ (k : Nat) (R : Nat → Value), k ≤ rs.length ∧ i = .int .i64 k ∧ OwnC wr w.heap.size 22 1 (.slice (some ⟨w.heap.size, 0, none⟩) rs.length rs.length) (rowCL (rs.take k ++ List.replicate (rs.length - k) noLst) R) ∧ Hid (∀ i, i < k → Ints wr (w.heap.size + 1) (R (i)) (lstAt rs i).s) ∧ Ext w wr) (fun i _ => rs.length - (intOf i).toNat)
  case atStart => exact ⟨0, _, Nat.zero_le _, rfl, hE2, Lib.hid (fun i h => absurd h (Nat.not_lt_zero _)), hx⟩
  case round =>
    clear hE2 hx
    obtain ⟨k, R, hk, rfl, hE, hN, Xr⟩ := hrel
    by_cases hlt : k < rs.length
    · have hkI : (k : Int) < rs.length := by omega
      obtain ⟨bl, off, u1, c1, rfl, k0, r1, -⟩ := hc k hlt
      have hm1 := hm k hlt
      replace k0 := Xr.cell k0
      replace r1 := r1.ext Xr
      clear hc hm
      have hfl := fillL_len rs k hk
      have hgw : w.heap.size < wr.heap.size := (hE.blkM _ rfl).2
      go_wp2_with fail
      refine (toIntS_c _ _ _ (r1.ext qXt) (by omega)).mono ?_
      rintro e w2 ⟨u1, rfl, j1, -, x2⟩
      have E2 : Ext wr w2 := Ext.trans qXt x2
      have X2 : Ext w w2 := Xr.trans E2
      replace j1 := j1.lower (lo' := w.heap.size + 1) (by first | omega | (simp; omega))
      obtain ⟨d1, f1, rfl⟩ := j1.form
      replace hE := hE.ext E2
      have hcl := fun j hj => hE.cellM (by rw [rowCL_len]; exact hfl.symm) k j (by rw [rowCL_len]; omega) hj
      have g0 := (hcl 0 (by omega)).1
      have f_0 := (hcl 0 (by omega)).2
      simp only [Nat.mul_one, Nat.add_zero] at g0 f_0
      rw [rowCL_get] at g0
      simp only [erowCL, List.getElem?_cons_zero, List.getElem?_cons_succ] at g0
      generalize (lstAt (rs.take k ++ List.replicate (rs.length - k) noLst) k) = Z at g0
      generalize R (k) = Z1 at g0
      have hp := OwnC.putL hE (by rw [rowCL_len]; exact hfl.symm) k (by rw [rowCL_len]; omega) (.slice d1 (lstAt rs k).s.length f1)
      have hq := rowCL_put (rs.take k ++ List.replicate (rs.length - k) noLst) R k (by omega) (lstAt rs k) (.slice d1 (lstAt rs k).s.length f1)
      rw [fillL_set rs k hlt] at hq
      rw [show [.slice d1 (lstAt rs k).s.length f1] = erowCL (lstAt rs k) (.slice d1 (lstAt rs k).s.length f1) from rfl, ← hq] at hp
      replace hp := Lib.hid hp
      have hK : Chg (w.heap.size) (w.heap.size + 1) w2 (w2.setCell ⟨w.heap.size, k, none⟩ (.slice d1 (lstAt rs k).s.length f1)) := qCh
      have hN2 : Hid (∀ i, i < k + 1 → Ints (w2.setCell ⟨w.heap.size, k, none⟩ (.slice d1 (lstAt rs k).s.length f1)) (w.heap.size + 1) ((fun p => if p = k then (.slice d1 (lstAt rs k).s.length f1) else R p) (i)) (lstAt rs i).s) := Lib.hid (fun i hi => by
        by_cases hik : i < k
        · have h7 := hN.out i hik
          dsimp only
          rw [if_neg (by omega)]
          exact (h7.ext E2).chg hK (Nat.le_refl _)
        · obtain rfl : i = k := by omega
          dsimp only
          rw [if_pos rfl]
          exact j1.chg hK (Nat.le_refl _))
      clear hq hcl hE hK hN hm1
      go_wp2_with fail
      go_roundw
      case rel => exact ⟨k + 1, _, by omega, by go_num, hp.out, hN2, qXt⟩
      case measure => simp [intOf]; omega
    · obtain rfl : k = rs.length := by omega
      go_wp2_with fail
      go_ret
      simp only [List.take_length, Nat.sub_self, List.replicate_zero, List.append_nil] at hE
      exact ⟨_, rfl, Lsts.ofRow hE hN.out hl _ (Nat.le_refl _) (Nat.le_succ _), Xr⟩
set_option maxHeartbeats 1600000 in
theorem eqIntSS_c (rs : List Lst) (v1 v2 : Value) (w : World) (l1 l2 : Nat) (h1 : Lsts w l1 v1 rs) (h2 : Lsts w l2 v2 rs) :
    Calls Try.prog 42 #[v1, v2] w fun e w' => e = .returned (.bool true) ∧ Ext w w' := by
  obtain ⟨a1, c1, rfl⟩ := h1.form
  obtain ⟨a2, c2, rfl⟩ := h2.form
  have hl := h1.len
  go_enter Try.func42, Try.ntmps42
  go_wp2_with fail
  go_loopw [5] (fun i wr => ∃ (k : Nat), k ≤ rs.length ∧ i = .int .i64 k ∧ Ext w wr) (fun i _ => rs.length - (intOf i).toNat)
  case atStart => exact ⟨0, Nat.zero_le _, rfl, qXt⟩
  case round =>
    obtain ⟨k, hk, rfl, Xr⟩ := hrel
    by_cases hlt : k < rs.length
    · have hkI : (k : Int) < rs.length := by omega
      obtain ⟨b1, o1, u1, d1, rfl, x0, i1⟩ := (h1.ext Xr).at k hlt
      obtain ⟨b2, o2, u2, d2, rfl, y0, i2⟩ := (h2.ext Xr).at k hlt
      clear h1 h2
      replace i1 := Lib.hid i1
      replace i2 := Lib.hid i2
      go_wp2_with fail
      go_region_with (first
        | (go_at_call 40; refine (eqIntS_x (lstAt rs k).s _ _ _ _ _ (i1.out.ext qXt) (i2.out.ext qXt)).mono ?_; rintro e w1 ⟨rfl, x⟩; have X1 : Ext w w1 := Xr.trans (Ext.trans qXt x)))
      all_goals (
        go_wp2_with fail
        go_roundw
        case rel => exact ⟨k + 1, by omega, by go_num, X1⟩
        case measure => simp [intOf]; omega)
    · obtain rfl : k = rs.length := by omega
      go_wp2_with fail
      go_ret
      exact ⟨rfl, Xr⟩

end Go.Proofs.Ytfbbnbpobojboaa

/- What the arguments of a law read as, when they are opened: lists of records (IntS). No condition. -/
namespace Go.Proofs.Ytfbbnbpobojboaa
open Go.ChangeShapes Go.WideShapes Go.ChangeAt Go.RowKit Go.Joins
set_option linter.unusedVariables false
set_option maxRecDepth 100000

abbrev LLT : TypeId := 22
section
variable {H : Type} {enc : TypeId × Value → H} {w : World} {base : Nat} {spare : Nat → Bool} {held : Bool} {fuel : Nat}
theorem open_elL {cs : List Value} {x : DataW H × List MemPlace} (h : DataW.trod enc Try.prog w base spare held fuel LLT cs = some x) (hn : cs.length = 1) :
    ∃ (e : Lst) (u1 : Option Addr) (c1 : Nat), cs = [.slice u1 e.s.length c1] ∧ RawIn w (.slice u1 e.s.length c1) e.s := by
  match cs, hn with
  | [v0], _ =>
    obtain ⟨s, hx⟩ := open_rawInts (v := v0) h
    obtain ⟨u1, c1, rfl⟩ := hx.form
    exact ⟨⟨s⟩, u1, c1, rfl, hx⟩
/-- the records that came in -/
theorem open_rawL {v : Value} {x : DataW H × List MemPlace} (hf : DataW.trod enc Try.prog w base spare held fuel 51 [v] = some x) : ∃ rs, RawL w v rs ∧ rs.length ≤ maxLen := by
  rcases Deep.open_slice Try.underlying51 hf with ⟨hcs, _⟩ | ⟨a, len, cap, m, n, D, Pl, hcs, -, hlc, hcm, hm, -, hel⟩
  · simp at hcs; subst hcs
    exact ⟨[], ⟨none, 0, rfl, fun _ => rfl, fun i hi => absurd hi (by simp)⟩, by simp⟩
  · simp at hcs; subst hcs
    have hlm : len ≤ m := by rw [hm]; split <;> omega
    have hc : Try.prog.cellsOf LLT = 1 := by kernel_rfl
    have each : ∀ i, i < len → ∃ e : Lst, ∃ u1 c1, a.spot = none ∧ w.cell? ⟨a.block, a.off + i, none⟩ = some (.slice u1 e.s.length c1) ∧ RawIn w (.slice u1 e.s.length c1) e.s := by
      intro i hi
      obtain ⟨cs', h1, h2⟩ := hel i (by omega)
      rw [hc] at h1
      obtain ⟨-, hlen, hcell⟩ := World.cells?_some h1
      obtain ⟨e, u1, c1, rfl, hx1⟩ := open_elL h2 hlen
      have k0 := hcell 0 (by simp)
      obtain ⟨b, off, spot⟩ := a
      rw [Deep.add_add] at k0
      have hspot : spot = none := by
        obtain ⟨cs0, p1, p2⟩ := hel 0 (by omega)
        rw [hc] at p1
        obtain ⟨-, hl0, hcell0⟩ := World.cells?_some p1
        obtain ⟨e0, a1, b1, rfl, -⟩ := open_elL p2 hl0
        have k9 := hcell0 0 (by omega)
        rw [Deep.add_add] at k9
        have k8 : w.cell? ((⟨b, off, spot⟩ : Addr).add 0) = some (.slice a1 e0.s.length b1) := by simpa using k9
        have k7 := World.cell?_spot k8
        simpa [Addr.add] using k7
      subst hspot
      have e7 : ∀ j, (⟨b, off, none⟩ : Addr).add j = ⟨b, off + j, none⟩ := fun j => by unfold Addr.add; split <;> simp_all
      rw [e7] at k0
      exact ⟨e, u1, c1, rfl, by simpa [Nat.add_assoc] using k0, hx1⟩
    haveI : Inhabited Lst := ⟨noLst⟩
    obtain ⟨f, hF⟩ := Deep.choose_lt each
    have hl : ((List.range len).map f).length = len := by simp
    have hg : ∀ i, i < len → lstAt ((List.range len).map f) i = f i := fun i hi => by
      rw [lstAt_get (by rw [hl]; exact hi)]; simp
    refine ⟨(List.range len).map f, ⟨some a, cap, by rw [hl], (fun h => by cases h), fun i hi => ?_⟩, by rw [hl]; omega⟩
    rw [hl] at hi
    rw [hg i hi]
    obtain ⟨u1, c1, hsp, k0, hx1⟩ := hF i hi
    obtain ⟨b, off, spot⟩ := a
    cases hsp
    exact ⟨b, off, u1, c1, rfl, k0, hx1.1, hx1.2⟩
end

end Go.Proofs.Ytfbbnbpobojboaa

/- Plain laws: valid tensors, the extents of labels. No condition. -/
namespace Go.Proofs.Ytfbbnbpobojboaa
open Go.RowKit
set_option linter.unusedVariables false
set_option maxRecDepth 100000

/-- is a tensor valid? -/
def tenB (s t : List Int) : Bool := (shapeB s && decide ((t.length : Int) = countL s)) && t.all (inB (-1000000) 1000000)
theorem tenB_in {s t : List Int} (h : tenB s t = true) : shapeB s = true ∧ (t.length : Int) = countL s ∧ t.all (inB (-1000000) 1000000) = true := by
  unfold tenB at h; simp only [Bool.and_eq_true, decide_eq_true_eq] at h; exact ⟨h.1.1, h.1.2, h.2⟩
/-- are the first k tensors valid? -/
def tnB (ts : List Ten) (k : Nat) : Bool := (List.range k).all fun i => tenB (tenAt ts i).s (tenAt ts i).t
theorem tnB_succ (ts : List Ten) (k : Nat) : tnB ts (k+1) = (tnB ts k && tenB (tenAt ts k).s (tenAt ts k).t) := by unfold tnB; rw [List.range_succ, List.all_append]; simp
theorem tnB_no {ts : List Ten} {k n : Nat} (h : k < n) (hk : tenB (tenAt ts k).s (tenAt ts k).t = false) : tnB ts n = false := by
  unfold tnB
  rw [Bool.eq_false_iff]
  intro h2
  rw [List.all_eq_true] at h2
  have := h2 k (List.mem_range.2 h)
  rw [hk] at this; cases this
/-- as many labels as tensors, one to three valid ones -/
def tensB (ts : List Ten) (ls : List Lst) : Bool := tnB ts ts.length && (inB 1 3 (ts.length : Int) && decide ((ls.length : Int) = (ts.length : Int)))
abbrev labB (l : List Int) : Bool := l.all (inB 0 4)
/-- the extents behind the first d labels of a tensor; none where two extents of a label differ -/
def extIn (e : List Int) (s l : List Int) : Nat → Option (List Int)
  | 0 => some e
  | d+1 => (extIn e s l d).bind fun x => if 0 ≤ x.getD (l.getD d 0).toNat 0 ∧ x.getD (l.getD d 0).toNat 0 ≠ s.getD d 0 then none else some (x.set (l.getD d 0).toNat (s.getD d 0))
theorem extIn_none {e s l : List Int} {d n : Nat} (h : d ≤ n) (hd : extIn e s l d = none) : extIn e s l n = none := by
  induction n with
  | zero => obtain rfl : d = 0 := by omega
            exact hd
  | succ n ih =>
    rcases Nat.lt_or_ge d (n+1) with h1 | h1
    · unfold extIn; rw [ih (by omega)]; rfl
    · obtain rfl : d = n + 1 := by omega
      exact hd
theorem extIn_some {e s l x : List Int} {d : Nat} (h : extIn e s l d = some x) (hn : ¬ (0 ≤ x.getD (l.getD d 0).toNat 0 ∧ x.getD (l.getD d 0).toNat 0 ≠ s.getD d 0)) : extIn e s l (d+1) = some (x.set (l.getD d 0).toNat (s.getD d 0)) := by
  unfold extIn; rw [h]; simp only [Option.bind_some]; rw [if_neg hn]
theorem extIn_bad {e s l x : List Int} {d n : Nat} (hd : d < n) (h : extIn e s l d = some x) (hn : 0 ≤ x.getD (l.getD d 0).toNat 0 ∧ x.getD (l.getD d 0).toNat 0 ≠ s.getD d 0) : extIn e s l n = none := by
  refine extIn_none (d := d + 1) hd ?_
  unfold extIn; rw [h]; simp only [Option.bind_some]; rw [if_pos hn]
theorem extIn_len {e s l x : List Int} {d : Nat} (h : extIn e s l d = some x) : x.length = e.length := by
  induction d generalizing x with
  | zero => unfold extIn at h; cases h; rfl
  | succ d ih =>
    unfold extIn at h
    cases hp : extIn e s l d with
    | none => rw [hp] at h; cases h
    | some y =>
      rw [hp] at h
      simp only [Option.bind_some] at h
      split at h
      · cases h
      · cases h; rw [List.length_set]; exact ih hp
/-- do the labels of a tensor go with its dimensions? -/
def rowOk (s l : List Int) : Bool := decide ((l.length : Int) = (s.length : Int)) && labB l
/-- the extents behind the first k tensors -/
def extT (ts : List Ten) (ls : List Lst) : Nat → Option (List Int)
  | 0 => some (List.replicate 5 (-1))
  | k+1 => (extT ts ls k).bind fun e => if rowOk (tenAt ts k).s (lstAt ls k).s then extIn e (tenAt ts k).s (lstAt ls k).s (lstAt ls k).s.length else none
theorem extT_none {ts : List Ten} {ls : List Lst} {k n : Nat} (h : k ≤ n) (hk : extT ts ls k = none) : extT ts ls n = none := by
  induction n with
  | zero => obtain rfl : k = 0 := by omega
            exact hk
  | succ n ih =>
    rcases Nat.lt_or_ge k (n+1) with h1 | h1
    · unfold extT; rw [ih (by omega)]; rfl
    · obtain rfl : k = n + 1 := by omega
      exact hk
theorem extT_some {ts : List Ten} {ls : List Lst} {k : Nat} {e x : List Int} (h : extT ts ls k = some e) (hr : rowOk (tenAt ts k).s (lstAt ls k).s = true) (hx : extIn e (tenAt ts k).s (lstAt ls k).s (lstAt ls k).s.length = some x) : extT ts ls (k+1) = some x := by
  unfold extT; rw [h]; simp only [Option.bind_some]; rw [if_pos hr, hx]
theorem extT_row {ts : List Ten} {ls : List Lst} {k n : Nat} (hk : k < n) (hr : rowOk (tenAt ts k).s (lstAt ls k).s = false) : extT ts ls n = none := by
  refine extT_none (k := k + 1) hk ?_
  unfold extT; cases extT ts ls k with
  | none => rfl
  | some e => simp only [Option.bind_some]; rw [if_neg (by rw [hr]; simp)]
theorem extT_bad {ts : List Ten} {ls : List Lst} {k n : Nat} {e : List Int} (hk : k < n) (h : extT ts ls k = some e) (hx : extIn e (tenAt ts k).s (lstAt ls k).s (lstAt ls k).s.length = none) : extT ts ls n = none := by
  refine extT_none (k := k + 1) hk ?_
  unfold extT; rw [h]; simp only [Option.bind_some]; split <;> first | exact hx | rfl
theorem extT_len {ts : List Ten} {ls : List Lst} {k : Nat} {x : List Int} (h : extT ts ls k = some x) : x.length = 5 := by
  induction k generalizing x with
  | zero => unfold extT at h; cases h; simp
  | succ k ih =>
    unfold extT at h
    cases hp : extT ts ls k with
    | none => rw [hp] at h; cases h
    | some y =>
      rw [hp] at h
      simp only [Option.bind_some] at h
      split at h
      · rw [extIn_len h]; exact ih hp
      · cases h
/-- ExtentsOf -/
def extA (ts : List Ten) (ls : List Lst) : Option (List Int) := if tensB ts ls then extT ts ls ts.length else none
/-- a row that is filled with -1 -/
def negL (k : Nat) : List Int := List.replicate k (-1) ++ List.replicate (5 - k) 0
theorem negL_len {k : Nat} (h : k ≤ 5) : (negL k).length = 5 := by unfold negL; simp; omega
theorem negL_set {k : Nat} (h : k < 5) : (negL k).set k (-1) = negL (k+1) := by
  match k, h with
  | 0, _ => rfl
  | 1, _ => rfl
  | 2, _ => rfl
  | 3, _ => rfl
  | 4, _ => rfl
theorem negS (k : Nat) : List.replicate (k+1) (-1 : Int) = List.replicate k (-1) ++ [-1] := by rw [List.replicate_succ']
theorem lab_at {l : List Int} {d : Nat} {v : Int} (h : labB l = true) (hd : d < l.length) (hv : l.getD d 0 = v) : ∃ q : Nat, q ≤ 4 ∧ v = (q : Int) := by
  unfold labB at h
  rw [List.all_eq_true] at h
  have := h (l.getD d 0) (getD_mem hd)
  rw [hv] at this
  unfold inB at this
  simp at this
  exact ⟨v.toNat, by omega, by omega⟩
theorem ext_go {e s l x : List Int} {d q : Nat} {v1 v2 : Int} (h : extIn e s l d = some x) (hq : l.getD d 0 = (q : Int)) (h1 : x.getD q 0 = v1) (h2 : s.getD d 0 = v2) (hn : ¬ (0 ≤ v1 ∧ ¬ v1 = v2)) : extIn e s l (d+1) = some (x.set q v2) := by
  have e1 : (l.getD d 0).toNat = q := by rw [hq]; omega
  have := extIn_some h (by rw [e1, h1, h2]; exact hn)
  rwa [e1, h2] at this
theorem ext_stop {e s l x : List Int} {d q : Nat} {v1 v2 : Int} (hd : d < l.length) (h : extIn e s l d = some x) (hq : l.getD d 0 = (q : Int)) (h1 : x.getD q 0 = v1) (h2 : s.getD d 0 = v2) (hn : 0 ≤ v1 ∧ ¬ v1 = v2) : extIn e s l l.length = none := by
  have e1 : (l.getD d 0).toNat = q := by rw [hq]; omega
  exact extIn_bad hd h (by rw [e1, h1, h2]; exact hn)
theorem extA_none {ts : List Ten} {ls : List Lst} (h : tensB ts ls = false ∨ extT ts ls ts.length = none) : extA ts ls = none := by
  unfold extA
  rcases h with h | h
  · rw [h]; rfl
  · rw [h]; split <;> rfl
theorem extA_some {ts : List Ten} {ls : List Lst} {x : List Int} (h : tensB ts ls = true) (hx : extT ts ls ts.length = some x) : extA ts ls = some x := by unfold extA; rw [h, hx]; rfl
/-- the answer of ExtentsOf -/
abbrev extL (o : Option (List Int)) : List Int := o.getD []
theorem any_not (xs : List Int) (p : Int → Bool) : xs.any (fun x => !p x) = !xs.all p := by
  induction xs with
  | nil => rfl
  | cons a l ih => rw [List.any_cons, List.all_cons, ih]; cases p a <;> rfl
end Go.Proofs.Ytfbbnbpobojboaa

/- Plain laws: labels that are used, products of extents. No condition. -/
namespace Go.Proofs.Ytfbbnbpobojboaa
open Go.RowKit
set_option linter.unusedVariables false
set_option maxRecDepth 100000

/-- the labels of the first k lists -/
def catL (ls : List Lst) (k : Nat) : List Int := (List.range k).flatMap fun i => (lstAt ls i).s
theorem catL_succ (ls : List Lst) (k : Nat) : catL ls (k+1) = catL ls k ++ (lstAt ls k).s := by unfold catL; rw [List.range_succ, List.flatMap_append]; simp
theorem catL_mem {ls : List Lst} {k : Nat} {x : Int} : x ∈ catL ls k ↔ ∃ i, i < k ∧ x ∈ (lstAt ls i).s := by
  unfold catL
  rw [List.mem_flatMap]
  constructor
  · rintro ⟨i, hi, h⟩; exact ⟨i, List.mem_range.1 hi, h⟩
  · rintro ⟨i, hi, h⟩; exact ⟨i, List.mem_range.2 hi, h⟩
/-- the labels of all lists, ascending, each once -/
def alL (ls : List Lst) : List Int := Lib.compact (sortL (catL ls ls.length))
theorem alL_spec (ls : List Lst) : (alL ls).Pairwise (· < ·) ∧ ∀ x, x ∈ alL ls ↔ ∃ i, i < ls.length ∧ x ∈ (lstAt ls i).s := by
  have h := dedup_spec (catL ls ls.length)
  exact ⟨h.1, fun x => by rw [← catL_mem]; exact h.2 x⟩
/-- labels of 0 to 4 in all lists -/
def labsB (ls : List Lst) : Prop := ∀ i, i < ls.length → labB (lstAt ls i).s = true ∧ (lstAt ls i).s.length ≤ 60
theorem labB_mem {l : List Int} {x : Int} (h : labB l = true) (hx : x ∈ l) : 0 ≤ x ∧ x ≤ 4 := by
  unfold labB at h
  rw [List.all_eq_true] at h
  have := h x hx
  unfold inB at this; simpa using this
theorem catL_len {ls : List Lst} (h : labsB ls) (k : Nat) (hk : k ≤ ls.length) : (catL ls k).length ≤ 60 * k := by
  induction k with
  | zero => simp [catL]
  | succ k ih =>
    rw [catL_succ, List.length_append]
    have := (h k (by omega)).2
    have := ih (by omega)
    omega
/-- the labels of which p says so -/
def lab5 (p : Nat → Bool) : List Int := ((List.range 5).filter p).map fun k : Nat => (k : Int)
theorem lab5_asc (p : Nat → Bool) : (lab5 p).Pairwise (· < ·) := by
  unfold lab5
  rw [List.pairwise_map]
  exact (List.Pairwise.filter _ (List.pairwise_lt_range (n := 5))).imp fun h => by omega
theorem lab5_mem {p : Nat → Bool} {x : Int} : x ∈ lab5 p ↔ ∃ k : Nat, k < 5 ∧ p k = true ∧ x = k := by
  unfold lab5
  simp only [List.mem_map, List.mem_filter, List.mem_range]
  constructor
  · rintro ⟨k, ⟨h1, h2⟩, rfl⟩; exact ⟨k, h1, h2, rfl⟩
  · rintro ⟨k, h1, h2, rfl⟩; exact ⟨k, ⟨h1, h2⟩, rfl⟩
theorem lab5_of {xs : List Int} {p : Nat → Bool} (ha : xs.Pairwise (· < ·)) (h : ∀ x, x ∈ xs ↔ ∃ k : Nat, k < 5 ∧ p k = true ∧ x = k) : xs = lab5 p :=
  asc_ext _ _ ha (lab5_asc p) fun x => by rw [h, lab5_mem]
/-- what the extents of labels tell, behind some labels of a tensor -/
theorem extIn_fact {e s l x : List Int} {d : Nat} (he : e.length = 5) (hl : labB l = true) (hs : ∀ y ∈ s, 0 ≤ y ∧ y ≤ 60) (hd : d ≤ l.length) (hd2 : d ≤ s.length) (h : extIn e s l d = some x) (k : Nat) (hk : k < 5) :
    (0 ≤ x.getD k 0 ↔ 0 ≤ e.getD k 0 ∨ ∃ j, j < d ∧ l.getD j 0 = (k : Int)) ∧ (x.getD k 0 ≤ 60 ∨ x.getD k 0 = e.getD k 0) ∧ (0 ≤ x.getD k 0 ∨ x.getD k 0 = e.getD k 0) := by
  induction d generalizing x with
  | zero =>
    unfold extIn at h; cases h
    exact ⟨⟨fun h => .inl h, fun h => by rcases h with h | ⟨j, hj, -⟩; exact h; omega⟩, .inr rfl, .inr rfl⟩
  | succ d ih =>
    unfold extIn at h
    cases hp : extIn e s l d with
    | none => rw [hp] at h; cases h
    | some y =>
      rw [hp] at h
      simp only [Option.bind_some] at h
      have hy := extIn_len hp
      obtain ⟨i1, i2, i3⟩ := ih (by omega) (by omega) hp
      split at h
      · cases h
      · cases h
        have hq := labB_mem hl (getD_mem (s := l) (d := d) (by omega))
        have hv := hs _ (getD_mem (s := s) (d := d) (by omega))
        have hqk : (l.getD d 0).toNat < 5 := by omega
        by_cases hkq : (l.getD d 0).toNat = k
        · have hlk : l.getD d 0 = (k : Int) := by omega
          have e1 : (y.set (l.getD d 0).toNat (s.getD d 0)).getD k 0 = s.getD d 0 := by
            rw [hkq, List.getD_eq_getElem?_getD, List.getElem?_set_self (by omega)]; rfl
          rw [e1]
          exact ⟨⟨fun _ => .inr ⟨d, by omega, hlk⟩, fun _ => hv.1⟩, .inl hv.2, .inl hv.1⟩
        · have e1 : (y.set (l.getD d 0).toNat (s.getD d 0)).getD k 0 = y.getD k 0 := by
            rw [List.getD_eq_getElem?_getD, List.getElem?_set_ne hkq, ← List.getD_eq_getElem?_getD]
          rw [e1]
          refine ⟨i1.trans ⟨fun h => ?_, fun h => ?_⟩, i2, i3⟩
          · rcases h with h | ⟨j, hj, hjk⟩
            · exact .inl h
            · exact .inr ⟨j, by omega, hjk⟩
          · rcases h with h | ⟨j, hj, hjk⟩
            · exact .inl h
            · refine .inr ⟨j, ?_, hjk⟩
              have : j ≠ d := fun hjd => by subst hjd; omega
              omega
theorem mem_getD {l : List Int} {x : Int} : x ∈ l ↔ ∃ j, j < l.length ∧ l.getD j 0 = x := by
  constructor
  · intro h
    obtain ⟨j, hj, rfl⟩ := List.mem_iff_getElem.1 h
    exact ⟨j, hj, by simp [hj]⟩
  · rintro ⟨j, hj, rfl⟩; exact getD_mem hj
/-- what the extents of labels tell -/
theorem extT_fact {ts : List Ten} {ls : List Lst} {n : Nat} {x : List Int} (hv : tnB ts n = true) (h : extT ts ls n = some x) (k : Nat) (hk : k < 5) :
    (0 ≤ x.getD k 0 ↔ ∃ i, i < n ∧ (k : Int) ∈ (lstAt ls i).s) ∧ x.getD k 0 ≤ 60 ∧ (0 ≤ x.getD k 0 ∨ x.getD k 0 = -1) ∧ ∀ i, i < n → labB (lstAt ls i).s = true ∧ (lstAt ls i).s.length ≤ 4 := by
  induction n generalizing x with
  | zero =>
    unfold extT at h; cases h
    have e1 : (List.replicate 5 (-1 : Int)).getD k 0 = -1 := by rw [List.getD_eq_getElem?_getD, List.getElem?_replicate, if_pos hk]; rfl
    rw [e1]
    exact ⟨⟨fun h => by omega, fun ⟨i, hi, _⟩ => by omega⟩, by omega, .inr rfl, fun i hi => by omega⟩
  | succ n ih =>
    have hx5 := extT_len h
    rw [tnB_succ, Bool.and_eq_true] at hv
    unfold extT at h
    cases hp : extT ts ls n with
    | none => rw [hp] at h; cases h
    | some y =>
      rw [hp] at h
      simp only [Option.bind_some] at h
      have hy := extT_len hp
      obtain ⟨i1, i2, i3, i4⟩ := ih hv.1 hp
      split at h
      · rename_i hr
        unfold rowOk at hr
        rw [Bool.and_eq_true, decide_eq_true_eq] at hr
        have hsh := shapeB_in (tenB_in hv.2).1
        obtain ⟨f1, f2, f3⟩ := extIn_fact hy hr.2 hsh.2.1 (Nat.le_refl _) (by omega) h k hk
        refine ⟨?_, by omega, by omega, fun i hi => ?_⟩
        · rw [f1, i1]
          constructor
          · rintro (⟨i, hi, hm⟩ | ⟨j, hj, hjk⟩)
            · exact ⟨i, by omega, hm⟩
            · exact ⟨n, by omega, mem_getD.2 ⟨j, hj, hjk⟩⟩
          · rintro ⟨i, hi, hm⟩
            rcases Nat.lt_or_ge i n with h1 | h1
            · exact .inl ⟨i, h1, hm⟩
            · obtain rfl : i = n := by omega
              obtain ⟨j, hj, hjk⟩ := mem_getD.1 hm
              exact .inr ⟨j, hj, hjk⟩
        · rcases Nat.lt_or_ge i n with h1 | h1
          · exact i4 i h1
          · obtain rfl : i = n := by omega
            exact ⟨hr.2, by omega⟩
      · cases h
theorem tensB_in {ts : List Ten} {ls : List Lst} (h : tensB ts ls = true) : tnB ts ts.length = true ∧ 1 ≤ ts.length ∧ ts.length ≤ 3 ∧ ls.length = ts.length := by
  unfold tensB inB at h
  simp only [Bool.and_eq_true, decide_eq_true_eq] at h
  exact ⟨h.1, by omega, by omega, by omega⟩
theorem extA_in {ts : List Ten} {ls : List Lst} {x : List Int} (h : extA ts ls = some x) : tensB ts ls = true ∧ extT ts ls ts.length = some x := by
  unfold extA at h
  split at h
  · rename_i hc; exact ⟨hc, h⟩
  · cases h
/-- all that ExtentsOf tells -/
theorem extA_fact {ts : List Ten} {ls : List Lst} {x : List Int} (h : extA ts ls = some x) : x.length = 5 ∧ ls.length = ts.length ∧ 1 ≤ ts.length ∧ ts.length ≤ 3 ∧ (∀ i, i < ls.length → labB (lstAt ls i).s = true ∧ (lstAt ls i).s.length ≤ 4) ∧
    ∀ k, k < 5 → (0 ≤ x.getD k 0 ↔ ∃ i, i < ls.length ∧ (k : Int) ∈ (lstAt ls i).s) ∧ x.getD k 0 ≤ 60 ∧ (0 ≤ x.getD k 0 ∨ x.getD k 0 = -1) := by
  obtain ⟨hv, ht⟩ := extA_in h
  obtain ⟨g1, g2, g3, g4⟩ := tensB_in hv
  refine ⟨extT_len ht, g4, g2, g3, fun i hi => ?_, fun k hk => ?_⟩
  · exact (extT_fact g1 ht 0 (by omega)).2.2.2 i (by omega)
  · obtain ⟨f1, f2, f3, -⟩ := extT_fact g1 ht k hk
    rw [g4]; exact ⟨f1, f2, f3⟩
def labN (p : Nat → Bool) (n : Nat) : List Int := ((List.range n).filter p).map fun k : Nat => (k : Int)
theorem labN_succ (p : Nat → Bool) (n : Nat) : labN p (n+1) = if p n then labN p n ++ [(n : Int)] else labN p n := by
  unfold labN
  rw [List.range_succ, List.filter_append]
  cases h : p n
  · rw [List.filter_cons_of_neg (by simp [h])]; simp
  · rw [List.filter_cons_of_pos (by simp [h])]; simp
theorem labN_le (p : Nat → Bool) (n : Nat) : (labN p n).length ≤ n := by
  unfold labN; rw [List.length_map]; exact Nat.le_trans (List.length_filter_le _ _) (by simp)
end Go.Proofs.Ytfbbnbpobojboaa

/- Plain laws: the labels that are kept. No condition. -/
namespace Go.Proofs.Ytfbbnbpobojboaa
open Go.RowKit
set_option linter.unusedVariables false

/-- the labels of the lists ahead of the n-th, but of i and j -/
def othL (ls : List Lst) (i j : Nat) (n : Nat) : List Int := (List.range n).flatMap fun m => if m = i ∨ m = j then [] else (lstAt ls m).s
theorem othL_succ (ls : List Lst) (i j n : Nat) : othL ls i j (n+1) = othL ls i j n ++ (if n = i ∨ n = j then [] else (lstAt ls n).s) := by
  unfold othL; rw [List.range_succ, List.flatMap_append]; simp
def needL (ls : List Lst) (out : List Int) (i j n : Nat) : List Int := out ++ othL ls i j n
theorem needL_skip {ls : List Lst} {out : List Int} {i j n : Nat} (h : n = i ∨ n = j) : needL ls out i j (n+1) = needL ls out i j n := by
  unfold needL; rw [othL_succ, if_pos h, List.append_nil]
theorem needL_go {ls : List Lst} {out : List Int} {i j n : Nat} (h1 : ¬ n = i) (h2 : ¬ n = j) : needL ls out i j (n+1) = needL ls out i j n ++ (lstAt ls n).s := by
  unfold needL; rw [othL_succ, if_neg (by omega), List.append_assoc]
theorem needL_zero (ls : List Lst) (out : List Int) (i j : Nat) : needL ls out i j 0 = out := by unfold needL othL; simp
theorem needL_len {ls : List Lst} {out : List Int} {i j : Nat} (hb : labsB ls) (n : Nat) (hn : n ≤ ls.length) : (needL ls out i j n).length ≤ out.length + 60 * n := by
  induction n with
  | zero => rw [needL_zero]; omega
  | succ n ih =>
    have h := ih (by omega)
    by_cases hc : n = i ∨ n = j
    · rw [needL_skip hc]; omega
    · rw [needL_go (by omega) (by omega), List.length_append]
      have := (hb n (by omega)).2
      omega
/-- the number is needed: by the result or by one of the lists ahead of the n-th -/
def needB (ls : List Lst) (out : List Int) (i j : Nat) (x : Int) (n : Nat) : Bool := hasB (needL ls out i j n) x
theorem needB_zero (ls : List Lst) (out : List Int) (i j : Nat) (x : Int) : needB ls out i j x 0 = hasB out x := by unfold needB; rw [needL_zero]
theorem needB_skip {ls : List Lst} {out : List Int} {i j n : Nat} {x : Int} (h : n = i ∨ n = j) : needB ls out i j x (n+1) = needB ls out i j x n := by unfold needB; rw [needL_skip h]
theorem needB_go {ls : List Lst} {out : List Int} {i j n : Nat} {x : Int} (h1 : ¬ n = i) (h2 : ¬ n = j) : needB ls out i j x (n+1) = (needB ls out i j x n || hasB (lstAt ls n).s x) := by
  unfold needB hasB; rw [needL_go h1 h2]; simp
theorem needB_yes {ls : List Lst} {out : List Int} {i j n : Nat} {x : Int} (h : needB ls out i j x n = true) : needB ls out i j x (n+1) = true := by
  by_cases hc : n = i ∨ n = j
  · rw [needB_skip hc]; exact h
  · rw [needB_go (by omega) (by omega), h]; rfl
/-- the label k is kept -/
def kptP (ls : List Lst) (out : List Int) (i j : Nat) (k : Nat) : Bool := (hasB (lstAt ls i).s k || hasB (lstAt ls j).s k) && needB ls out i j k ls.length
def kptL (ls : List Lst) (out : List Int) (i j : Nat) : List Int := labN (kptP ls out i j) 5
theorem kpt_skip {ls : List Lst} {out : List Int} {i j k : Nat} (h : kptP ls out i j k = false) : labN (kptP ls out i j) (k+1) = labN (kptP ls out i j) k := by rw [labN_succ, h]; rfl
theorem kpt_go {ls : List Lst} {out : List Int} {i j k : Nat} (h : kptP ls out i j k = true) : labN (kptP ls out i j) (k+1) = labN (kptP ls out i j) k ++ [(k : Int)] := by rw [labN_succ, h]; rfl
/-- the labels of i and of j, each once -/
def twoL (ls : List Lst) (i j : Nat) : List Int := alL [⟨(lstAt ls i).s⟩, ⟨(lstAt ls j).s⟩]
theorem twoL_mem {ls : List Lst} {i j : Nat} {x : Int} : x ∈ twoL ls i j ↔ x ∈ (lstAt ls i).s ∨ x ∈ (lstAt ls j).s := by
  unfold twoL
  rw [(alL_spec _).2 x]
  constructor
  · rintro ⟨m, hm, hx⟩
    match m, hm, hx with
    | 0, _, hx => exact .inl hx
    | 1, _, hx => exact .inr hx
    | n + 2, hm, _ => exact absurd hm (by simp)
  · rintro (h | h)
    · exact ⟨0, by simp, h⟩
    · exact ⟨1, by simp, h⟩
def keptF (ls : List Lst) (out : List Int) (i j k : Nat) : List Int := ((twoL ls i j).take k).filter fun x => needB ls out i j x ls.length
theorem keptF_go {ls : List Lst} {out : List Int} {i j k : Nat} {x : Int} (hk : k < (twoL ls i j).length) (hx : (twoL ls i j).getD k 0 = x) (h : hasB (needL ls out i j ls.length) x = true) : keptF ls out i j (k+1) = keptF ls out i j k ++ [x] := by
  have h' : needB ls out i j x ls.length = true := h
  unfold keptF
  have e : (twoL ls i j)[k] = x := by rw [← hx]; simp [hk]
  rw [List.take_succ_eq_append_getElem hk, List.filter_append, e]
  simp [h']
theorem keptF_skip {ls : List Lst} {out : List Int} {i j k : Nat} {x : Int} (hk : k < (twoL ls i j).length) (hx : (twoL ls i j).getD k 0 = x) (h : hasB (needL ls out i j ls.length) x = false) : keptF ls out i j (k+1) = keptF ls out i j k := by
  have h' : ¬ needB ls out i j x ls.length = true := by unfold needB; rw [h]; simp
  unfold keptF
  have e : (twoL ls i j)[k] = x := by rw [← hx]; simp [hk]
  rw [List.take_succ_eq_append_getElem hk, List.filter_append, e]
  simp [h']
theorem keptF_len (ls : List Lst) (out : List Int) (i j k : Nat) : (keptF ls out i j k).length ≤ k := by
  unfold keptF
  refine Nat.le_trans (List.length_filter_le _ _) ?_
  rw [List.length_take]; omega
theorem hasB_mem {l : List Int} {x : Int} : hasB l x = true ↔ x ∈ l := by unfold hasB; simp
theorem kept_law {ls : List Lst} {out : List Int} {i j : Nat} (hb : labsB ls) (hi : i < ls.length) (hj : j < ls.length) : keptF ls out i j (twoL ls i j).length = kptL ls out i j := by
  unfold keptF
  rw [List.take_length]
  refine lab5_of (((alL_spec _).1).filter _) fun x => ?_
  rw [List.mem_filter, twoL_mem]
  constructor
  · rintro ⟨h1, h2⟩
    have hx : 0 ≤ x ∧ x ≤ 4 := by
      rcases h1 with h | h
      · exact labB_mem (hb i hi).1 h
      · exact labB_mem (hb j hj).1 h
    have e : ((x.toNat : Nat) : Int) = x := by omega
    refine ⟨x.toNat, by omega, ?_, e.symm⟩
    unfold kptP
    rw [e, h2, Bool.and_true, Bool.or_eq_true, hasB_mem, hasB_mem]
    exact h1
  · rintro ⟨k, hk, h, rfl⟩
    unfold kptP at h
    rw [Bool.and_eq_true, Bool.or_eq_true, hasB_mem, hasB_mem] at h
    exact h
theorem kptL_len (ls : List Lst) (out : List Int) (i j : Nat) : (kptL ls out i j).length ≤ 5 := labN_le _ _
theorem twoL_len {ls : List Lst} {i j : Nat} (hb : labsB ls) (hi : i < ls.length) (hj : j < ls.length) : (twoL ls i j).length ≤ 120 := by
  unfold twoL alL
  have h1 := compact_len_le (sortL (catL [⟨(lstAt ls i).s⟩, ⟨(lstAt ls j).s⟩] 2))
  rw [sortL_len] at h1
  have h2 := catL_len (ls := [⟨(lstAt ls i).s⟩, ⟨(lstAt ls j).s⟩]) (fun m hm => by
    match m, hm with
    | 0, _ => exact hb i hi
    | 1, _ => exact hb j hj
    | n + 2, hm => exact absurd hm (by simp)) 2 (Nat.le_refl _)
  exact Nat.le_trans h1 h2
theorem two_labs {ls : List Lst} {i j : Nat} (hb : labsB ls) (hi : i < ls.length) (hj : j < ls.length) : labsB [⟨(lstAt ls i).s⟩, ⟨(lstAt ls j).s⟩] := fun m hm => by
  match m, hm with
  | 0, _ => exact hb i hi
  | 1, _ => exact hb j hj
  | n + 2, hm => exact absurd hm (by simp)
/-- where a number stands, or -1: whether it is there -/
theorem place_has (xs : List Int) (x : Int) : hasB xs x = decide (0 ≤ placeL xs x) := (placeL_ge xs x).symm
theorem place_yes {xs : List Int} {x : Int} (h : ¬ placeL xs x < 0) : hasB xs x = true := by rw [place_has]; exact decide_eq_true (by omega)
theorem place_no {xs : List Int} {x : Int} (h : placeL xs x < 0) : hasB xs x = false := by rw [place_has]; exact decide_eq_false (by omega)
/-- what KeptLabels returns -/
def kptA (ts : List Ten) (ls : List Lst) (out : List Int) (i j : Int) : List Int := if (extA ts ls).isSome = true ∧ labB out = true ∧ (0 ≤ i ∧ i < ts.length ∧ 0 ≤ j ∧ j < ts.length ∧ ¬ i = j) then kptL ls out i.toNat j.toNat else []
theorem kptA_none {ts : List Ten} {ls : List Lst} {out : List Int} {i j : Int} (h : extA ts ls = none) : kptA ts ls out i j = [] := by unfold kptA; rw [if_neg]; rw [h]; simp
theorem kptA_pair {ts : List Ten} {ls : List Lst} {out : List Int} {i j : Int} (h : ¬ (0 ≤ i ∧ i < ts.length ∧ 0 ≤ j ∧ j < ts.length ∧ ¬ i = j)) : kptA ts ls out i j = [] := by unfold kptA; rw [if_neg]; rintro ⟨-, -, h2⟩; exact h h2
theorem kptA_lab {ts : List Ten} {ls : List Lst} {out : List Int} {i j : Int} (h : labB out = false) : kptA ts ls out i j = [] := by unfold kptA; rw [if_neg]; rintro ⟨-, h2, -⟩; rw [h] at h2; cases h2
theorem kptA_yes {ts : List Ten} {ls : List Lst} {out x : List Int} {i j : Int} (h : extA ts ls = some x) (h2 : labB out = true) (h3 : 0 ≤ i ∧ i < ts.length ∧ 0 ≤ j ∧ j < ts.length ∧ ¬ i = j) : kptA ts ls out i j = kptL ls out i.toNat j.toNat := by unfold kptA; rw [if_pos ⟨by rw [h]; rfl, h2, h3⟩]
theorem kptA_len (ts : List Ten) (ls : List Lst) (out : List Int) (i j : Int) : (kptA ts ls out i j).length ≤ 5 := by
  unfold kptA; split
  · exact kptL_len _ _ _ _
  · simp
end Go.Proofs.Ytfbbnbpobojboaa

/- Walks: OffsetsOf and IsRow of the program and of the reference. -/
namespace Go.Proofs.Ytfbbnbpobojboaa
open Go.RowKit
set_option linter.unusedVariables false
set_option maxRecDepth 100000


end Go.Proofs.Ytfbbnbpobojboaa

/- Walks: rowStrides of the program. -/
namespace Go.Proofs.Ytfbbnbpobojboaa
open Go.RowKit
set_option linter.unusedVariables false
set_option maxRecDepth 100000

end Go.Proofs.Ytfbbnbpobojboaa

/- Helpers of the laws: equal lists, equal views, a number in a list. -/
namespace Go.Proofs.Ytfbbnbpobojboaa
open Go.RowKit
set_option linter.unusedVariables false
set_option maxRecDepth 100000



end Go.Proofs.Ytfbbnbpobojboaa

/- Walks: helpers of the laws. -/
namespace Go.Proofs.Ytfbbnbpobojboaa
open Go.RowKit
set_option linter.unusedVariables false
set_option maxRecDepth 100000

end Go.Proofs.Ytfbbnbpobojboaa

/- Walks: LoadView of the program and of the reference. -/
namespace Go.Proofs.Ytfbbnbpobojboaa
open Go.RowKit
set_option linter.unusedVariables false
set_option maxRecDepth 100000


theorem PInts.no {w w' : World} (h : Ext w w') : PInts w [] (.returned (.slice none 0 0)) w' :=
  ⟨_, rfl, Ints.nil _ _ _ _ (by simp) (fun _ => rfl), .inl ⟨rfl, none, 0, rfl, by simp, fun _ => rfl⟩, h⟩

end Go.Proofs.Ytfbbnbpobojboaa

/- Plain laws on memories: what is stored last stays, what is added, sums. -/
namespace Go.Proofs.Ytfbbnbpobojboaa
open Go.RowKit
set_option linter.unusedVariables false
set_option maxRecDepth 100000

/-- additions one by one -/
def addUp (mem ix vs : List Int) (k : Nat) : List Int := (List.range k).foldl (fun m i => m.set (ix.getD i 0).toNat ((m.getD (ix.getD i 0).toNat 0 + vs.getD i 0) % 256)) mem
theorem addUp_succ (mem ix vs : List Int) (k : Nat) : addUp mem ix vs (k+1) = (addUp mem ix vs k).set (ix.getD k 0).toNat (((addUp mem ix vs k).getD (ix.getD k 0).toNat 0 + vs.getD k 0) % 256) := by
  unfold addUp; rw [List.range_succ, List.foldl_append]; rfl
theorem addUp_len (mem ix vs : List Int) (k : Nat) : (addUp mem ix vs k).length = mem.length := by
  induction k with
  | zero => rfl
  | succ k ih => rw [addUp_succ, List.length_set, ih]
end Go.Proofs.Ytfbbnbpobojboaa

/- Walks: indices, ranks, rows, sums. -/
namespace Go.Proofs.Ytfbbnbpobojboaa
open Go.RowKit
set_option linter.unusedVariables false
set_option maxRecDepth 100000


theorem sh {s : List Int} (h : shapeB s = true) : Small s ∧ (0 < countL s → ∀ e ∈ s, 1 ≤ e) ∧ countL s ≤ 1000000 := by
  have h6 := shapeB_in h
  exact ⟨Small.of h, h6.2.2.2.2, by omega⟩
/-- the first k numbers are within the extents -/
def OkTo (s r : List Int) (k : Nat) : Prop := ∀ j, j < k → 0 ≤ r.getD j 0 ∧ r.getD j 0 < s.getD j 0
theorem OkTo.zero (s r : List Int) : OkTo s r 0 := fun j h => absurd h (by omega)
theorem OkTo.succ {s r : List Int} {k : Nat} (h : OkTo s r k) {x e : Int} (hx : r.getD k 0 = x) (he : s.getD k 0 = e) (h1 : 0 ≤ x) (h2 : x < e) : OkTo s r (k+1) := fun j hj => by
  by_cases hjk : j = k
  · subst hjk; rw [hx, he]; exact ⟨h1, h2⟩
  · exact h j (by omega)
end Go.Proofs.Ytfbbnbpobojboaa

/- Walks: ranks, indices, rows, sums. -/
namespace Go.Proofs.Ytfbbnbpobojboaa
open Go.RowKit
set_option linter.unusedVariables false
set_option maxRecDepth 100000


end Go.Proofs.Ytfbbnbpobojboaa

/- Walks: valid tensors, labels. -/
namespace Go.Proofs.Ytfbbnbpobojboaa
open Go.RowKit
set_option linter.unusedVariables false
set_option maxRecDepth 100000


theorem tensorF_c (w : World) : Asks 171 #[] w (fun x => !inB (-1000000) 1000000 x) := by
 refine ⟨⟨Try.f171, Try.func171, rfl, by decide +kernel⟩, fun x => ?_⟩
 rw [show (#[Value.int .i64 x] ++ #[]) = #[.int .i64 x] by simp]
 by_cases h : x < -1000000
 ·
  go_enter Try.func171, Try.ntmps171
  go_wp2_with fail
  go_ret
  exact ⟨by simp [inB]; intros; omega, rfl⟩
 ·
  have h' : ¬ (x < -1000000) := h
  by_cases h2 : 1000000 < x
  ·
   go_enter Try.func171, Try.ntmps171
   go_wp2_with fail
   go_ret
   exact ⟨by rw [show inB (-1000000) 1000000 x = false by unfold inB; simp; omega] <;> rfl, rfl⟩
  ·
   go_enter Try.func171, Try.ntmps171
   go_wp2_with fail
   go_ret
   exact ⟨by rw [show inB (-1000000) 1000000 x = true by unfold inB; simp; omega] <;> rfl, rfl⟩
theorem labelsF_c (w : World) : Asks 141 #[] w (fun x => !inB 0 4 x) := by
 refine ⟨⟨Try.f141, Try.func141, rfl, by decide +kernel⟩, fun x => ?_⟩
 rw [show (#[Value.int .i64 x] ++ #[]) = #[.int .i64 x] by simp]
 by_cases h : x < 0
 ·
  go_enter Try.func141, Try.ntmps141
  go_wp2_with fail
  go_ret
  exact ⟨by simp [inB]; intros; omega, rfl⟩
 ·
  have h' : ¬ (x < 0) := h
  by_cases h2 : 4 < x
  ·
   go_enter Try.func141, Try.ntmps141
   go_wp2_with fail
   go_ret
   exact ⟨by rw [show inB 0 4 x = false by unfold inB; simp; omega] <;> rfl, rfl⟩
  ·
   go_enter Try.func141, Try.ntmps141
   go_wp2_with fail
   go_ret
   exact ⟨by rw [show inB 0 4 x = true by unfold inB; simp; omega] <;> rfl, rfl⟩
theorem anyT_c (xs : List Int) (v : Value) (w : World) (lo : Nat) (hv : Ints w lo v xs) :
  Calls Try.prog 124 #[v, .func (.func 171) #[] #[]] w fun e w' => e = .returned (.bool (!xs.all (inB (-1000000) 1000000))) ∧ w = w' := by
 rw [← any_not]; exact containsFunc_c _ _ _ xs v w lo hv (tensorF_c w)
theorem anyL_c (xs : List Int) (v : Value) (w : World) (lo : Nat) (hv : Ints w lo v xs) :
  Calls Try.prog 124 #[v, .func (.func 141) #[] #[]] w fun e w' => e = .returned (.bool (!xs.all (inB 0 4))) ∧ w = w' := by
 rw [← any_not]; exact containsFunc_c _ _ _ xs v w lo hv (labelsF_c w)
set_option maxHeartbeats 1600000 in
theorem isTensor_c (u v : Value) (s t : List Int) (w : World) (l1 l2 : Nat) (h1 : Ints w l1 u s) (h2 : Ints w l2 v t) :
  Calls Try.prog 140 #[.agg #[u, v]] w (fun e w' => e = .returned (.bool (tenB s t)) ∧ Ext w w') := by
 obtain ⟨p0, c0, rfl⟩ := h1.form
 obtain ⟨p1, c1, rfl⟩ := h2.form
 go_enter Try.func140, Try.ntmps140
 go_wp2_with fail
 generalize hW1 : w.alloc (.cells #[.slice p0 s.length c0, .slice p1 t.length c1] 109) = w1 at *
 have Lw1 : Ext w w1 := by subst hW1; exact qXt
 have Xw1 : Ext w w1 := by subst hW1; exact Lw1
 have b10 : w1.cell? ⟨w.heap.size, 0, none⟩ = some (.slice p0 s.length c0) := by subst hW1; exact qCl
 have b11 : w1.cell? ⟨w.heap.size, 1, none⟩ = some (.slice p1 t.length c1) := by subst hW1; exact qCl
 have z_b1 : w.heap.size < w1.heap.size := qB b10
 have s_w1 : w.heap.size ≤ w1.heap.size := Xw1.size
 clear hW1
 refine wp_region_tail (S := fun w' => w'.cell? ⟨w.heap.size, 0, none⟩ = some (.slice p0 s.length c0) ∧ w'.cell? ⟨w.heap.size, 1, none⟩ = some (.slice p1 t.length c1)) (fun i => decide (13 ≤ i)) qKr ⟨b10, b11⟩ (fun hHeld => ?_)
 refine qTk (v := ?_) 0 rfl (.inl ⟨by rfl, ?_⟩) ?_
 rotate_left
 ·
  (intro w hSw; (try dsimp only at hSw); go_simp; try with_reducible rfl)
 try simp only [Act.put, qa, qb, qc, qD, qE, qF]
 refine qTk (v := ?_) 1 rfl (.inl ⟨by rfl, ?_⟩) ?_
 rotate_left
 ·
  (intro w hSw; (try dsimp only at hSw); go_simp; try with_reducible rfl)
 try simp only [Act.put, qa, qb, qc, qD, qE, qF]
 refine wpTail_one (i := 2) qKr rfl rfl (fun K hK => ?_)
 try simp only [Act.put, qa, qb, qc, qD, qE, qF]
 go_simp
 refine (isShape_c s (.slice p0 s.length c0) _ _ (h1.ext (Xw1.trans qXt))).mono ?_
 rintro e w' ⟨rfl, rfl⟩
 cases hB2 : shapeB s
 ·
  replace hB2 := Lib.hid hB2
  refine hK.out _ _ ⟨b10, b11⟩ (fun hHeld => ?_)
  clear hK K
  try simp only [Act.put, qa, qb, qc, qD, qE, qF]
  refine qTk (v := ?_) 3 rfl (.inl ⟨by rfl, ?_⟩) ?_
  rotate_left
  ·
   (intro w hSw; (try dsimp only at hSw); go_simp; try with_reducible rfl)
  try simp only [Act.put, qa, qb, qc, qD, qE, qF]
  refine qTk (v := ?_) 4 rfl (.inl ⟨by rfl, ?_⟩) ?_
  rotate_left
  ·
   (intro w hSw; (try dsimp only at hSw); go_simp; try with_reducible rfl)
  try simp only [Act.put, qa, qb, qc, qD, qE, qF]
  refine qTs 5 rfl (.inr ⟨by rfl, rfl⟩) ?_
  try simp only [Act.put, qa, qb, qc, qD, qE, qF]
  refine qTs 6 rfl (.inr ⟨by rfl, rfl⟩) ?_
  try simp only [Act.put, qa, qb, qc, qD, qE, qF]
  refine qTs 7 rfl (.inr ⟨by rfl, rfl⟩) ?_
  try simp only [Act.put, qa, qb, qc, qD, qE, qF]
  refine qTs 8 rfl (.inr ⟨by rfl, rfl⟩) ?_
  try simp only [Act.put, qa, qb, qc, qD, qE, qF]
  refine qTs 9 rfl (.inr ⟨by rfl, rfl⟩) ?_
  try simp only [Act.put, qa, qb, qc, qD, qE, qF]
  refine qTs 10 rfl (.inr ⟨by rfl, rfl⟩) ?_
  try simp only [Act.put, qa, qb, qc, qD, qE, qF]
  refine qTs 11 rfl (.inr ⟨by rfl, rfl⟩) ?_
  try simp only [Act.put, qa, qb, qc, qD, qE, qF]
  refine qTk (v := ?_) 12 rfl (.inl ⟨by rfl, ?_⟩) ?_
  rotate_left
  ·
   (intro w hSw; (try dsimp only at hSw); go_simp; try with_reducible rfl)
  try simp only [Act.put, qa, qb, qc, qD, qE, qF]
  refine wpTail_done qKr ?_ _
  clear hHeld 
  go_wp2_with fail
  go_ret
  exact ⟨by rw [show tenB s t = false from by unfold tenB; rw [hB2.out]; rfl] <;> rfl, (Xw1.trans qXt)⟩
 ·
  replace hB2 := Lib.hid hB2
  refine hK.out _ _ ⟨b10, b11⟩ (fun hHeld => ?_)
  clear hK K
  try simp only [Act.put, qa, qb, qc, qD, qE, qF]
  refine qTk (v := ?_) 3 rfl (.inl ⟨by rfl, ?_⟩) ?_
  rotate_left
  ·
   (intro w hSw; (try dsimp only at hSw); go_simp; try with_reducible rfl)
  try simp only [Act.put, qa, qb, qc, qD, qE, qF]
  refine qTk (v := ?_) 4 rfl (.inl ⟨by rfl, ?_⟩) ?_
  rotate_left
  ·
   (intro w hSw; (try dsimp only at hSw); go_simp; try with_reducible rfl)
  try simp only [Act.put, qa, qb, qc, qD, qE, qF]
  refine qTk (v := ?_) 5 rfl (.inl ⟨by rfl, ?_⟩) ?_
  rotate_left
  ·
   (intro w hSw; (try dsimp only at hSw); go_simp; try with_reducible rfl)
  try simp only [Act.put, qa, qb, qc, qD, qE, qF]
  refine qTk (v := ?_) 6 rfl (.inl ⟨by rfl, ?_⟩) ?_
  rotate_left
  ·
   (intro w hSw; (try dsimp only at hSw); go_simp; try with_reducible rfl)
  try simp only [Act.put, qa, qb, qc, qD, qE, qF]
  refine qTk (v := ?_) 7 rfl (.inl ⟨by rfl, ?_⟩) ?_
  rotate_left
  ·
   (intro w hSw; (try dsimp only at hSw); go_simp; try with_reducible rfl)
  try simp only [Act.put, qa, qb, qc, qD, qE, qF]
  refine qTk (v := ?_) 8 rfl (.inl ⟨by rfl, ?_⟩) ?_
  rotate_left
  ·
   (intro w hSw; (try dsimp only at hSw); go_simp; try with_reducible rfl)
  try simp only [Act.put, qa, qb, qc, qD, qE, qF]
  refine qTk (v := ?_) 9 rfl (.inl ⟨by rfl, ?_⟩) ?_
  rotate_left
  ·
   (intro w hSw; (try dsimp only at hSw); go_simp; try with_reducible rfl)
  try simp only [Act.put, qa, qb, qc, qD, qE, qF]
  refine wpTail_one (i := 10) qKr rfl rfl (fun K hK => ?_)
  try simp only [Act.put, qa, qb, qc, qD, qE, qF]
  go_simp
  refine (countOf_c s (.slice p0 s.length c0) _ _ (h1.ext (Xw1.trans qXt))).mono ?_
  rintro e w' ⟨rfl, rfl⟩
  refine hK.out _ _ ⟨b10, b11⟩ (fun hHeld => ?_)
  clear hK K
  try simp only [Act.put, qa, qb, qc, qD, qE, qF]
  by_cases hc3 : (t.length : Int) = (countL s : Int)
  ·
   have hc3e : ((t.length : Int) == (countL s : Int)) = true := by simpa using hc3
   have hc3n : ((t.length : Int) != (countL s : Int)) = false := by simpa using hc3
   replace hc3 := Lib.hid hc3
   refine qTk (v := ?_) 11 rfl (.inl ⟨by rfl, ?_⟩) ?_
   rotate_left
   ·
    (intro w hSw; (try dsimp only at hSw); go_simp; try with_reducible rfl)
   try simp only [Act.put, qa, qb, qc, qD, qE, qF]
   refine qTk (v := ?_) 12 rfl (.inl ⟨by rfl, ?_⟩) ?_
   rotate_left
   ·
    (intro w hSw; (try dsimp only at hSw); go_simp; try with_reducible rfl)
   try simp only [Act.put, qa, qb, qc, qD, qE, qF]
   refine wpTail_done qKr ?_ _
   clear hHeld 
   go_wp2_with fail
   refine (anyT_c t (.slice p1 t.length c1) _ _ (h2.ext (Xw1.trans qXt))).mono ?_
   rintro e w' ⟨rfl, rfl⟩
   cases hB4 : !(t.all (inB (-1000000) 1000000))
   ·
    replace hB4 := Lib.hid hB4
    go_wp2_with fail
    go_ret
    exact ⟨by rw [show tenB s t = true from by unfold tenB; rw [hB2.out, decide_eq_true (show ((t.length : Int) = countL s) from hc3.out), show t.all (inB (-1000000) 1000000) = true from by simpa using hB4.out]; rfl] <;> rfl, (Xw1.trans qXt)⟩
   ·
    replace hB4 := Lib.hid hB4
    go_wp2_with fail
    go_ret
    exact ⟨by rw [show tenB s t = false from by unfold tenB; rw [hB2.out, decide_eq_true (show ((t.length : Int) = countL s) from hc3.out), show t.all (inB (-1000000) 1000000) = false from by simpa using hB4.out]; rfl] <;> rfl, (Xw1.trans qXt)⟩
  ·
   have hc3e : ((t.length : Int) == (countL s : Int)) = false := by simpa using hc3
   have hc3n : ((t.length : Int) != (countL s : Int)) = true := by simpa using hc3
   replace hc3 := Lib.hid hc3
   refine qTk (v := ?_) 11 rfl (.inl ⟨by rfl, ?_⟩) ?_
   rotate_left
   ·
    (intro w hSw; (try dsimp only at hSw); go_simp; try with_reducible rfl)
   try simp only [Act.put, qa, qb, qc, qD, qE, qF]
   refine qTk (v := ?_) 12 rfl (.inl ⟨by rfl, ?_⟩) ?_
   rotate_left
   ·
    (intro w hSw; (try dsimp only at hSw); go_simp; try with_reducible rfl)
   try simp only [Act.put, qa, qb, qc, qD, qE, qF]
   refine wpTail_done qKr ?_ _
   clear hHeld 
   go_wp2_with fail
   go_ret
   exact ⟨by rw [show tenB s t = false from by unfold tenB; rw [hB2.out, decide_eq_false (show ¬ ((t.length : Int) = countL s) from hc3.out)]; rfl] <;> rfl, (Xw1.trans qXt)⟩

set_option maxHeartbeats 1600000 in
theorem validTensor_c (u v : Value) (s t : List Int) (w : World) (l1 l2 : Nat) (h1 : Ints w l1 u s) (h2 : Ints w l2 v t) :
  Calls Try.prog 170 #[.agg #[u, v]] w (fun e w' => e = .returned (.bool (tenB s t)) ∧ Ext w w') := by
 obtain ⟨p0, c0, rfl⟩ := h1.form
 obtain ⟨p1, c1, rfl⟩ := h2.form
 go_enter Try.func170, Try.ntmps170
 go_wp2_with fail
 generalize hW2 : w.alloc (.cells #[.slice p0 s.length c0, .slice p1 t.length c1] 109) = w1 at *
 have Lw1 : Ext w w1 := by subst hW2; exact qXt
 have Xw1 : Ext w w1 := by subst hW2; exact Lw1
 have b10 : w1.cell? ⟨w.heap.size, 0, none⟩ = some (.slice p0 s.length c0) := by subst hW2; exact qCl
 have b11 : w1.cell? ⟨w.heap.size, 1, none⟩ = some (.slice p1 t.length c1) := by subst hW2; exact qCl
 have z_b1 : w.heap.size < w1.heap.size := qB b10
 have s_w1 : w.heap.size ≤ w1.heap.size := Xw1.size
 clear hW2
 refine wp_region_tail (S := fun w' => w'.cell? ⟨w.heap.size, 0, none⟩ = some (.slice p0 s.length c0) ∧ w'.cell? ⟨w.heap.size, 1, none⟩ = some (.slice p1 t.length c1)) (fun i => decide (18 ≤ i)) qKr ⟨b10, b11⟩ (fun hHeld => ?_)
 refine qTk (v := ?_) 0 rfl (.inl ⟨by rfl, ?_⟩) ?_
 rotate_left
 ·
  (intro w hSw; (try dsimp only at hSw); go_simp; try with_reducible rfl)
 try simp only [Act.put, qa, qb, qc, qD, qE, qF]
 refine qTk (v := ?_) 1 rfl (.inl ⟨by rfl, ?_⟩) ?_
 rotate_left
 ·
  (intro w hSw; (try dsimp only at hSw); go_simp; try with_reducible rfl)
 try simp only [Act.put, qa, qb, qc, qD, qE, qF]
 refine wpTail_one (i := 2) qKr rfl rfl (fun K hK => ?_)
 try simp only [Act.put, qa, qb, qc, qD, qE, qF]
 go_simp
 refine (validShape_c s (.slice p0 s.length c0) _ _ (h1.ext (Xw1.trans qXt))).mono ?_
 rintro e w' ⟨rfl, rfl⟩
 cases hB2 : shapeB s
 ·
  replace hB2 := Lib.hid hB2
  refine hK.out _ _ ⟨b10, b11⟩ (fun hHeld => ?_)
  clear hK K
  try simp only [Act.put, qa, qb, qc, qD, qE, qF]
  refine qTk (v := ?_) 3 rfl (.inl ⟨by rfl, ?_⟩) ?_
  rotate_left
  ·
   (intro w hSw; (try dsimp only at hSw); go_simp; try with_reducible rfl)
  try simp only [Act.put, qa, qb, qc, qD, qE, qF]
  refine qTs 4 rfl (.inr ⟨by rfl, rfl⟩) ?_
  try simp only [Act.put, qa, qb, qc, qD, qE, qF]
  refine qTs 5 rfl (.inr ⟨by rfl, rfl⟩) ?_
  try simp only [Act.put, qa, qb, qc, qD, qE, qF]
  refine qTs 6 rfl (.inr ⟨by rfl, rfl⟩) ?_
  try simp only [Act.put, qa, qb, qc, qD, qE, qF]
  refine qTs 7 rfl (.inr ⟨by rfl, rfl⟩) ?_
  try simp only [Act.put, qa, qb, qc, qD, qE, qF]
  refine qTs 8 rfl (.inr ⟨by rfl, rfl⟩) ?_
  try simp only [Act.put, qa, qb, qc, qD, qE, qF]
  refine qTs 9 rfl (.inr ⟨by rfl, rfl⟩) ?_
  try simp only [Act.put, qa, qb, qc, qD, qE, qF]
  refine qTs 10 rfl (.inr ⟨by rfl, rfl⟩) ?_
  try simp only [Act.put, qa, qb, qc, qD, qE, qF]
  refine qTk (v := ?_) 11 rfl (.inl ⟨by rfl, ?_⟩) ?_
  rotate_left
  ·
   (intro w hSw; (try dsimp only at hSw); go_simp; try with_reducible rfl)
  try simp only [Act.put, qa, qb, qc, qD, qE, qF]
  refine qTk (v := ?_) 12 rfl (.inl ⟨by rfl, ?_⟩) ?_
  rotate_left
  ·
   (intro w hSw; (try dsimp only at hSw); go_simp; try with_reducible rfl)
  try simp only [Act.put, qa, qb, qc, qD, qE, qF]
  refine qTs 13 rfl (.inr ⟨by rfl, rfl⟩) ?_
  try simp only [Act.put, qa, qb, qc, qD, qE, qF]
  refine qTs 14 rfl (.inr ⟨by rfl, rfl⟩) ?_
  try simp only [Act.put, qa, qb, qc, qD, qE, qF]
  refine qTs 15 rfl (.inr ⟨by rfl, rfl⟩) ?_
  try simp only [Act.put, qa, qb, qc, qD, qE, qF]
  refine qTk (v := ?_) 16 rfl (.inl ⟨by rfl, ?_⟩) ?_
  rotate_left
  ·
   (intro w hSw; (try dsimp only at hSw); go_simp; try with_reducible rfl)
  try simp only [Act.put, qa, qb, qc, qD, qE, qF]
  refine qTk (v := ?_) 17 rfl (.inl ⟨by rfl, ?_⟩) ?_
  rotate_left
  ·
   (intro w hSw; (try dsimp only at hSw); go_simp; try with_reducible rfl)
  try simp only [Act.put, qa, qb, qc, qD, qE, qF]
  refine wpTail_done qKr ?_ _
  clear hHeld 
  go_wp2_with fail
  go_ret
  exact ⟨by rw [show tenB s t = false from by unfold tenB; rw [hB2.out]; rfl] <;> rfl, (Xw1.trans qXt)⟩
 ·
  replace hB2 := Lib.hid hB2
  refine hK.out _ _ ⟨b10, b11⟩ (fun hHeld => ?_)
  clear hK K
  try simp only [Act.put, qa, qb, qc, qD, qE, qF]
  refine qTk (v := ?_) 3 rfl (.inl ⟨by rfl, ?_⟩) ?_
  rotate_left
  ·
   (intro w hSw; (try dsimp only at hSw); go_simp; try with_reducible rfl)
  try simp only [Act.put, qa, qb, qc, qD, qE, qF]
  refine qTk (v := ?_) 4 rfl (.inl ⟨by rfl, ?_⟩) ?_
  rotate_left
  ·
   (intro w hSw; (try dsimp only at hSw); go_simp; try with_reducible rfl)
  try simp only [Act.put, qa, qb, qc, qD, qE, qF]
  refine qTk (v := ?_) 5 rfl (.inl ⟨by rfl, ?_⟩) ?_
  rotate_left
  ·
   (intro w hSw; (try dsimp only at hSw); go_simp; try with_reducible rfl)
  try simp only [Act.put, qa, qb, qc, qD, qE, qF]
  refine qTk (v := ?_) 6 rfl (.inl ⟨by rfl, ?_⟩) ?_
  rotate_left
  ·
   (intro w hSw; (try dsimp only at hSw); go_simp; try with_reducible rfl)
  try simp only [Act.put, qa, qb, qc, qD, qE, qF]
  refine qTk (v := ?_) 7 rfl (.inl ⟨by rfl, ?_⟩) ?_
  rotate_left
  ·
   (intro w hSw; (try dsimp only at hSw); go_simp; try with_reducible rfl)
  try simp only [Act.put, qa, qb, qc, qD, qE, qF]
  refine qTk (v := ?_) 8 rfl (.inl ⟨by rfl, ?_⟩) ?_
  rotate_left
  ·
   (intro w hSw; (try dsimp only at hSw); go_simp; try with_reducible rfl)
  try simp only [Act.put, qa, qb, qc, qD, qE, qF]
  refine wpTail_one (i := 9) qKr rfl rfl (fun K hK => ?_)
  try simp only [Act.put, qa, qb, qc, qD, qE, qF]
  go_simp
  refine (count_c s (.slice p0 s.length c0) _ _ (h1.ext (Xw1.trans qXt))).mono ?_
  rintro e w' ⟨rfl, rfl⟩
  refine hK.out _ _ ⟨b10, b11⟩ (fun hHeld => ?_)
  clear hK K
  try simp only [Act.put, qa, qb, qc, qD, qE, qF]
  by_cases hc3 : (t.length : Int) = (countL s : Int)
  ·
   have hc3e : ((t.length : Int) == (countL s : Int)) = true := by simpa using hc3
   have hc3n : ((t.length : Int) != (countL s : Int)) = false := by simpa using hc3
   replace hc3 := Lib.hid hc3
   refine qTk (v := ?_) 10 rfl (.inl ⟨by rfl, ?_⟩) ?_
   rotate_left
   ·
    (intro w hSw; (try dsimp only at hSw); go_simp; try with_reducible rfl)
   try simp only [Act.put, qa, qb, qc, qD, qE, qF]
   refine qTk (v := ?_) 11 rfl (.inl ⟨by rfl, ?_⟩) ?_
   rotate_left
   ·
    (intro w hSw; (try dsimp only at hSw); go_simp; try with_reducible rfl)
   try simp only [Act.put, qa, qb, qc, qD, qE, qF]
   refine qTk (v := ?_) 12 rfl (.inl ⟨by rfl, ?_⟩) ?_
   rotate_left
   ·
    (intro w hSw; (try dsimp only at hSw); go_simp; try with_reducible rfl)
   try simp only [Act.put, qa, qb, qc, qD, qE, qF]
   refine qTk (v := ?_) 13 rfl (.inl ⟨by rfl, ?_⟩) ?_
   rotate_left
   ·
    (intro w hSw; (try dsimp only at hSw); go_simp; try with_reducible rfl)
   try simp only [Act.put, qa, qb, qc, qD, qE, qF]
   refine qTk (v := ?_) 14 rfl (.inl ⟨by rfl, ?_⟩) ?_
   rotate_left
   ·
    (intro w hSw; (try dsimp only at hSw); go_simp; try with_reducible rfl)
   try simp only [Act.put, qa, qb, qc, qD, qE, qF]
   refine wpTail_one (i := 15) qKr rfl rfl (fun K hK => ?_)
   try simp only [Act.put, qa, qb, qc, qD, qE, qF]
   go_simp
   refine (allIn_c t (.slice p1 t.length c1) (-1000000) 1000000 _ _ (h2.ext (Xw1.trans qXt))).mono ?_
   rintro e w' ⟨rfl, rfl⟩
   cases hB4 : t.all (inB (-1000000) 1000000)
   ·
    replace hB4 := Lib.hid hB4
    refine hK.out _ _ ⟨b10, b11⟩ (fun hHeld => ?_)
    clear hK K
    try simp only [Act.put, qa, qb, qc, qD, qE, qF]
    refine qTk (v := ?_) 16 rfl (.inl ⟨by rfl, ?_⟩) ?_
    rotate_left
    ·
     (intro w hSw; (try dsimp only at hSw); go_simp; try with_reducible rfl)
    try simp only [Act.put, qa, qb, qc, qD, qE, qF]
    refine qTk (v := ?_) 17 rfl (.inl ⟨by rfl, ?_⟩) ?_
    rotate_left
    ·
     (intro w hSw; (try dsimp only at hSw); go_simp; try with_reducible rfl)
    try simp only [Act.put, qa, qb, qc, qD, qE, qF]
    refine wpTail_done qKr ?_ _
    clear hHeld 
    go_wp2_with fail
    go_ret
    exact ⟨by rw [show tenB s t = false from by unfold tenB; rw [hB2.out, decide_eq_true (show ((t.length : Int) = countL s) from hc3.out), hB4.out]; rfl] <;> rfl, (Xw1.trans qXt)⟩
   ·
    replace hB4 := Lib.hid hB4
    refine hK.out _ _ ⟨b10, b11⟩ (fun hHeld => ?_)
    clear hK K
    try simp only [Act.put, qa, qb, qc, qD, qE, qF]
    refine qTk (v := ?_) 16 rfl (.inl ⟨by rfl, ?_⟩) ?_
    rotate_left
    ·
     (intro w hSw; (try dsimp only at hSw); go_simp; try with_reducible rfl)
    try simp only [Act.put, qa, qb, qc, qD, qE, qF]
    refine qTk (v := ?_) 17 rfl (.inl ⟨by rfl, ?_⟩) ?_
    rotate_left
    ·
     (intro w hSw; (try dsimp only at hSw); go_simp; try with_reducible rfl)
    try simp only [Act.put, qa, qb, qc, qD, qE, qF]
    refine wpTail_done qKr ?_ _
    clear hHeld 
    go_wp2_with fail
    go_ret
    exact ⟨by rw [show tenB s t = true from by unfold tenB; rw [hB2.out, decide_eq_true (show ((t.length : Int) = countL s) from hc3.out), hB4.out]; rfl] <;> rfl, (Xw1.trans qXt)⟩
  ·
   have hc3e : ((t.length : Int) == (countL s : Int)) = false := by simpa using hc3
   have hc3n : ((t.length : Int) != (countL s : Int)) = true := by simpa using hc3
   replace hc3 := Lib.hid hc3
   refine qTk (v := ?_) 10 rfl (.inl ⟨by rfl, ?_⟩) ?_
   rotate_left
   ·
    (intro w hSw; (try dsimp only at hSw); go_simp; try with_reducible rfl)
   try simp only [Act.put, qa, qb, qc, qD, qE, qF]
   refine qTk (v := ?_) 11 rfl (.inl ⟨by rfl, ?_⟩) ?_
   rotate_left
   ·
    (intro w hSw; (try dsimp only at hSw); go_simp; try with_reducible rfl)
   try simp only [Act.put, qa, qb, qc, qD, qE, qF]
   refine qTk (v := ?_) 12 rfl (.inl ⟨by rfl, ?_⟩) ?_
   rotate_left
   ·
    (intro w hSw; (try dsimp only at hSw); go_simp; try with_reducible rfl)
   try simp only [Act.put, qa, qb, qc, qD, qE, qF]
   refine qTs 13 rfl (.inr ⟨by rfl, rfl⟩) ?_
   try simp only [Act.put, qa, qb, qc, qD, qE, qF]
   refine qTs 14 rfl (.inr ⟨by rfl, rfl⟩) ?_
   try simp only [Act.put, qa, qb, qc, qD, qE, qF]
   refine qTs 15 rfl (.inr ⟨by rfl, rfl⟩) ?_
   try simp only [Act.put, qa, qb, qc, qD, qE, qF]
   refine qTk (v := ?_) 16 rfl (.inl ⟨by rfl, ?_⟩) ?_
   rotate_left
   ·
    (intro w hSw; (try dsimp only at hSw); go_simp; try with_reducible rfl)
   try simp only [Act.put, qa, qb, qc, qD, qE, qF]
   refine qTk (v := ?_) 17 rfl (.inl ⟨by rfl, ?_⟩) ?_
   rotate_left
   ·
    (intro w hSw; (try dsimp only at hSw); go_simp; try with_reducible rfl)
   try simp only [Act.put, qa, qb, qc, qD, qE, qF]
   refine wpTail_done qKr ?_ _
   clear hHeld 
   go_wp2_with fail
   go_ret
   exact ⟨by rw [show tenB s t = false from by unfold tenB; rw [hB2.out, decide_eq_false (show ¬ ((t.length : Int) = countL s) from hc3.out)]; rfl] <;> rfl, (Xw1.trans qXt)⟩

set_option maxHeartbeats 1600000 in
theorem areLabels_c (l : List Int) (v : Value) (w : World) (l1 : Nat) (h1 : Ints w l1 v l) :
  Calls Try.prog 99 #[v] w (fun e w' => e = .returned (.bool (labB l)) ∧ Ext w w') := by
 obtain ⟨p0, c0, rfl⟩ := h1.form
 go_enter Try.func99, Try.ntmps99
 go_wp2_with fail
 refine (anyL_c l (.slice p0 l.length c0) _ _ (h1.ext qXt)).mono ?_
 rintro e w' ⟨rfl, rfl⟩
 cases hB1 : !(l.all (inB 0 4))
 ·
  replace hB1 := Lib.hid hB1
  go_wp2_with fail
  go_ret
  exact ⟨by rw [show labB l = true from by simpa using hB1.out] <;> rfl, qXt⟩
 ·
  replace hB1 := Lib.hid hB1
  go_wp2_with fail
  go_ret
  exact ⟨by rw [show labB l = false from by simpa using hB1.out] <;> rfl, qXt⟩

set_option maxHeartbeats 1600000 in
theorem validTensors_c (ts : List Ten) (ls : List Lst) (tv lv : Value) (w : World) (l1 l2 : Nat) (h1 : Tens w l1 tv ts) (h2 : Lsts w l2 lv ls) :
  Calls Try.prog 137 #[tv, lv] w (fun e w' => e = .returned (.bool (tensB ts ls)) ∧ Ext w w') := by
 obtain ⟨p0, c0, rfl⟩ := h1.form
 obtain ⟨p1, c1, rfl⟩ := h2.form
 have hlt1 := h1.len
 have hlt2 := h2.len
 go_enter Try.func137, Try.ntmps137
 go_wp2_with fail
 go_loopw [5] (fun i wr => ∃ (k : Nat), k ≤ ts.length ∧ i = .int .i64 k ∧ Hid (tnB ts k = true) ∧ Ext w wr) (fun i _ => ts.length - (intOf i).toNat)
 case atStart => exact ⟨0, Nat.zero_le _, rfl, Lib.hid rfl, qXt⟩
 case round =>
  obtain ⟨k, hk, rfl, ht, Lwr⟩ := hrel
  have Xwr : Ext w wr := Lwr
  have s_wr : w.heap.size ≤ wr.heap.size := Xwr.size
  have t_wr : w.heap.size ≤ wr.heap.size := Lwr.size
  have Bwr : Ext w wr := Lwr
  by_cases hlt : k < ts.length
  ·
   have hkI : (k : Int) < ts.length := by omega
   have hN_x1 : k < ts.length := hlt
   have hI_x1 : (k : Int) < (ts.length : Int) := by omega
   obtain ⟨bl3, ol4, u5, c7, u6, c8, rfl, x10, x11, i9, i10⟩ := h1.at k hN_x1
   obtain ⟨X2, hX2⟩ : ∃ x, tenAt ts k = x := ⟨_, rfl⟩
   rw [hX2] at x10 x11 i9 i10
   obtain ⟨S11, T12⟩ := X2
   dsimp only at x10 x11 i9 i10
   replace hX2 := Lib.hid hX2
   have hLS11 := i9.len
   have hLT12 := i10.len
   have y_x1 : bl3 < w.heap.size := qB x10
   replace x10 := Xwr.cell x10
   replace x11 := Xwr.cell x11
   have z_x1 : bl3 < wr.heap.size := qB x10
   go_wp2_with fail
   refine (validTensor_c (.slice u5 S11.length c7) (.slice u6 T12.length c8) S11 T12 _ _ _ (i9.ext (Xwr.trans qXt)) (i10.ext (Xwr.trans qXt))).mono ?_
   rintro e w1 ⟨rfl, xw1⟩
   have Lw1 : Ext wr w1 := Ext.trans qXt xw1
   have Xw1 : Ext w w1 := Xwr.trans Lw1
   replace x10 := Lw1.cell x10
   replace x11 := Lw1.cell x11
   have z_x1 : bl3 < w1.heap.size := qB x10
   have s_w1 : w.heap.size ≤ w1.heap.size := Xw1.size
   have Bwr_w1 : Ext w w1 := Bwr.trans Lw1
   clear xw1
   cases hB13 : tenB S11 T12
   ·
    replace hB13 := Lib.hid hB13
    go_wp2_with fail
    go_ret
    exact ⟨by rw [show tensB ts ls = false from by unfold tensB; rw [tnB_no hlt (by rw [hX2.out]; exact hB13.out)]; rfl] <;> rfl, (Xw1.trans qXt)⟩
   ·
    replace hB13 := Lib.hid hB13
    go_wp2_with fail
    go_roundw
    case rel => exact ⟨k + 1, by omega, by go_num, Lib.hid (by rw [tnB_succ, ht.out, Bool.true_and, hX2.out]; exact hB13.out), (Bwr_w1.trans qXt)⟩
    case measure => simp [intOf]; omega
  ·
   obtain rfl : k = ts.length := by omega
   have hkI : ¬ (ts.length : Int) < ts.length := by omega
   go_wp2_with fail
   refine (inRange_c (ts.length : Int) 1 3 _).mono ?_
   rintro e w' ⟨rfl, rfl⟩
   cases hB14 : inB 1 3 (ts.length : Int)
   ·
    replace hB14 := Lib.hid hB14
    go_wp2_with fail
    go_ret
    exact ⟨by rw [show tensB ts ls = false from by unfold tensB; rw [ht.out, hB14.out]; rfl] <;> rfl, (Xwr.trans qXt)⟩
   ·
    replace hB14 := Lib.hid hB14
    by_cases hc15 : (ls.length : Int) = (ts.length : Int)
    ·
     have hc15e : ((ls.length : Int) == (ts.length : Int)) = true := by simpa using hc15
     have hc15n : ((ls.length : Int) != (ts.length : Int)) = false := by simpa using hc15
     replace hc15 := Lib.hid hc15
     go_wp2_with fail
     go_ret
     exact ⟨by rw [show tensB ts ls = true from by unfold tensB; rw [ht.out, hB14.out, decide_eq_true (show ((ls.length : Int) = (ts.length : Int)) from hc15.out)]; rfl] <;> rfl, (Xwr.trans qXt)⟩
    ·
     have hc15e : ((ls.length : Int) == (ts.length : Int)) = false := by simpa using hc15
     have hc15n : ((ls.length : Int) != (ts.length : Int)) = true := by simpa using hc15
     replace hc15 := Lib.hid hc15
     go_wp2_with fail
     go_ret
     exact ⟨by rw [show tensB ts ls = false from by unfold tensB; rw [ht.out, hB14.out, decide_eq_false (show ¬ ((ls.length : Int) = (ts.length : Int)) from hc15.out)]; rfl] <;> rfl, (Xwr.trans qXt)⟩


end Go.Proofs.Ytfbbnbpobojboaa

/- Helpers of walks: capacities, two rows that grow. -/
namespace Go.Proofs.Ytfbbnbpobojboaa
open Go.RowKit
set_option linter.unusedVariables false

theorem PViewB.two {w w' : World} {B : Nat} {b : Int} {s t : List Int} {v1 v2 : Value} (T : Two B w' v1 v2 s t) (hB : w.heap.size ≤ B) (hs : s.length ≤ 1000) (ht : t.length ≤ 1000) (hx : Ext w w') :
    PViewB w b s t true (.returned (.tuple #[.agg #[.int .i64 b, v1, v2], .bool true])) w' :=
  ⟨_, _, rfl, (T.o1.ints (by omega)).lower hB, (T.o2.ints (by omega)).lower hB, (T.o1.lower hB).z, (T.o2.lower hB).z,
    (fun n1 n2 h => by obtain ⟨g, _, h1, _⟩ := (T.o1).row n1; rw [h1] at h; exact T.sep g (by rw [h1]; rfl) (h ▸ rfl)), hx⟩
end Go.Proofs.Ytfbbnbpobojboaa

/- Walks: slices.Delete of one number of a row of one's own. -/
namespace Go.Proofs.Ytfbbnbpobojboaa
open Go.RowKit
set_option linter.unusedVariables false
set_option maxRecDepth 100000

/-- a call hands back a view and whether there is one -/
def PVWB (w : World) (b : Int) (s t : List Int) (ok : Bool) (e : Ending) (w' : World) : Prop := ∃ u v, e = .returned (.tuple #[.agg #[.int .i64 b, u, v], .bool ok]) ∧ Ints w' w.heap.size u s ∧ Ints w' w.heap.size v t ∧ Ext w w'
theorem PVWB.no {w w' : World} (h : Ext w w') : PVWB w 0 [] [] false (.returned (.tuple #[.agg #[.int .i64 0, .slice none 0 0, .slice none 0 0], .bool false])) w' :=
  ⟨_, _, rfl, Ints.nil _ _ _ _ (by simp) (fun _ => rfl), Ints.nil _ _ _ _ (by simp) (fun _ => rfl), h⟩
end Go.Proofs.Ytfbbnbpobojboaa

/- Walks: slices.Insert of one number into a row of one's own. -/
namespace Go.Proofs.Ytfbbnbpobojboaa
open Go.RowKit
set_option linter.unusedVariables false
set_option maxRecDepth 100000

end Go.Proofs.Ytfbbnbpobojboaa

/- Helpers of walks: appends to a literal without room, whatever is appended. -/
namespace Go.Proofs.Ytfbbnbpobojboaa
open Go.RowKit
set_option linter.unusedVariables false
section
variable {w : World} {src : Value} {ys : List Int} {lo B l : Nat}
theorem run_app0O (ty : TypeId) (O : OwnI w B (.slice (some ⟨l, 0, none⟩) 0 0) []) (hB : B ≤ w.heap.size) (hs : Ints w lo src ys) :
    ∃ g r w', (Builtin.append_ #[22, 22] ty #[.slice (some ⟨l, 0, none⟩) 0 0, src]).run Try.prog w = .ok (.slice (some ⟨g, 0, none⟩) ys.length r) w' ∧ OwnI w' B (.slice (some ⟨g, 0, none⟩) ys.length r) ys ∧ Ext w w' ∧ (g = l ∨ w.heap.size ≤ g) ∧ g < w'.heap.size ∧ (ys = [] → r = 0) := by
  obtain ⟨v', w', hr, h1, h2, h3⟩ := run_app0 ⟨l, 0, none⟩ ty hs
  by_cases he : ys = []
  · subst he
    have hs' := hs
    obtain ⟨i0, hi, hz0, hz1, hz2⟩ := info_parts infoInt
    obtain ⟨a, cap, rfl, h1, h2, ⟨h3', h3⟩, h4⟩ := hs
    refine ⟨l, 0, w, ?_, O, Ext.refl _, .inl rfl, (own_lt O rfl).2, fun _ => rfl⟩
    cases a with
    | none => simp [Builtin.append_, run_underlying Try.underlying22, sizeOf, typeInfo, hi, Builtin.lenOf, Builtin.firstCells, storeCells]
    | some x => simp [Builtin.append_, run_underlying Try.underlying22, sizeOf, typeInfo, hi, Builtin.lenOf, Builtin.firstCells, storeCells, loadCells, loadCellsFrom]
  · have O' := (h1.ofNe he)
    obtain ⟨g, r, rfl, hg, hg'⟩ := O'.row he
    exact ⟨g, r, w', hr, O'.lower hB, h2, .inr hg, hg', fun h => absurd h he⟩

theorem wpList_app0C {ops : Array Oper} {rest : List Oper} {o : Oper} {a : Act} {Q : Exit → Act → World → Prop} (hgd : o.guard = none) (s x : Operand)
    (ho : o.op = .call { callee := .builtin .append, args := #[s, x], argTypes := #[22, 22] })
    (hs : a.eval s = .slice (some ⟨l, 0, none⟩) 0 0) (hx : a.eval x = src) (O : OwnI w B (.slice (some ⟨l, 0, none⟩) 0 0) []) (hB : B ≤ w.heap.size) (hsrc : Ints w lo src ys)
    (hK : ∀ g r w', OwnI w' B (.slice (some ⟨g, 0, none⟩) ys.length r) ys → Ext w w' → (g = l ∨ w.heap.size ≤ g) → g < w'.heap.size → Hid (ys = [] → r = 0) → wpList Try.prog ops Q rest (a.put o.dst (.slice (some ⟨g, 0, none⟩) ys.length r)) w') : wpList Try.prog ops Q (o :: rest) a w := by
  refine wpList_plain hgd fun K hK' => ?_
  obtain ⟨g, r, w', hr, h1, h2, h3, h4, h5⟩ := run_app0O o.type O hB hsrc
  unfold Oper.wp execOp
  simp only [ho, resolve, invoke, builtin, Sem.run_bind, Sem.run_pure, Result.andThen_ok, List.map_toArray, List.map_cons, List.map_nil, hs, hx, hr]
  exact hK' _ _ (hK g r w' h1 h2 h3 h4 (Lib.hid h5))
end
/-- a call hands back a row of its own -/
def PIntsO (w : World) (xs : List Int) (e : Ending) (w' : World) : Prop := ∃ g r, e = .returned (.slice (some ⟨g, 0, none⟩) xs.length r) ∧ OwnI w' w.heap.size (.slice (some ⟨g, 0, none⟩) xs.length r) xs ∧ w.heap.size ≤ g ∧ g < w'.heap.size ∧ Ext w w'
/-- a call hands back a row of its own, without room where it is empty -/
def PIntsC (w : World) (xs : List Int) (e : Ending) (w' : World) : Prop := ∃ g r, e = .returned (.slice (some ⟨g, 0, none⟩) xs.length r) ∧ OwnI w' w.heap.size (.slice (some ⟨g, 0, none⟩) xs.length r) xs ∧ w.heap.size ≤ g ∧ g < w'.heap.size ∧ Hid (xs = [] → r = 0) ∧ Ext w w'
theorem PIntsC.o {w w' : World} {xs : List Int} {e : Ending} (h : PIntsC w xs e w') : PIntsO w xs e w' := by obtain ⟨g, r, h1, h2, h3, h4, -, h5⟩ := h; exact ⟨g, r, h1, h2, h3, h4, h5⟩
/-- an empty slice has no room -/
def CapZ (v : Value) (xs : List Int) : Prop := Hid (xs = [] → ∃ a, v = .slice a 0 0)
theorem CapZ.row {g r n : Nat} {ys xs : List Int} (hz : Hid (ys = [] → r = 0)) (hl : xs.length = ys.length) (hn : n = ys.length) : CapZ (.slice (some ⟨g, 0, none⟩) n r) xs :=
  Lib.hid fun h => by
    subst h
    have hy : ys = [] := List.eq_nil_of_length_eq_zero hl.symm
    rw [hn, hz.out hy, hy]
    exact ⟨_, rfl⟩
theorem CapZ.nil (xs : List Int) : CapZ (.slice none 0 0) xs := Lib.hid fun _ => ⟨_, rfl⟩
theorem CapZ.same {g n : Nat} {xs : List Int} (hn : n = xs.length) : CapZ (.slice (some ⟨g, 0, none⟩) n n) xs := Lib.hid fun h => by subst h; subst hn; exact ⟨_, rfl⟩
/-- a call hands back a new slice, without room where it is empty, and whether that is possible -/
def PIntsBC (w : World) (xs : List Int) (b : Bool) (e : Ending) (w' : World) : Prop := ∃ v, e = .returned (.tuple #[v, .bool b]) ∧ Ints w' w.heap.size v xs ∧ OwnZ w' w.heap.size v xs ∧ CapZ v xs ∧ Ext w w'
theorem PIntsBC.nil {w w' : World} (h : Ext w w') : PIntsBC w [] false (.returned (.tuple #[.slice none 0 0, .bool false])) w' :=
  ⟨_, rfl, Ints.nil _ _ _ _ (by simp) (fun _ => rfl), .inl ⟨rfl, none, 0, rfl, by simp, fun _ => rfl⟩, CapZ.nil _, h⟩
end Go.Proofs.Ytfbbnbpobojboaa
