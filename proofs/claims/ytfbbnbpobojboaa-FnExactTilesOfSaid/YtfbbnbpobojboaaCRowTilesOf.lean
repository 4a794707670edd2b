/- Texts of these proofs put together: Rec, Shelf, PureA, Lib, ViewD, ViewE, ViewF, PureB, ViewG, Lp, ExI, MemA, RlA, PureC, PureV, ExJ, ExD, ExG, RngA, ExK, ExL, ExM, SvA, SvB, SvC, PureW, PureX, PureY, RngB, RngC, SlA, PureZ, Rg, GenA, RgL, Kit, SvE, SvF, SvG, SvD, SvH, KitB, SvI, GenB, GenC, GenD, SvJ, LvA, RlV, RxV, OpV, LvB, LvF, LvE, LvG, PureM, LvI, TlP, TlA, TlB, LawTilesOf, RowTilesOf. No condition. -/
import Derived.Test.YtfbbnbpobojboaaM1
import Derived.Shelf.Small.Bits
import Derived.Shelf.Strconv.Itoa0
import Derived.Shelf.Sort.Plain
import Derived.Shelf.Slices.Turned
import Derived.Shelf.Slices.Reverse
import Derived.Shelf.Slices.Equal
import Derived.Ground.Names2Prog
import Derived.Shelf.Slices.CompactI
import Derived.Shelf.Slices.SearchI
import Derived.Shelf.Slices.Cells
import Derived.Shelf.Slices.In.SortNone
import Derived.Shelf.Slices.Empties2
import Derived.Test.YtfbbnbpobojboaaProg
import Derived.Lib.SlicesCompact
import Derived.Sort.OwnSortedInts
import Derived.StillTail
import Derived.Deep.DeepCutAuto
import Derived.Deep.CutBlock
import Derived.Deep.RegionHeld3
import Derived.WalkKit
import Derived.StillTailTactics
import Derived.Deep.Slices
import Derived.Deep.Strs
set_option linter.unusedVariables false
set_option linter.unusedSimpArgs false
/- Words for memory: slices whose elements take several cells. No condition. -/
namespace Go.Proofs.Ytfbbnbpobojboaa
open Go.RowKit

theorem flat_len {sz : Nat} : ∀ {L : List (List Value)}, (∀ c ∈ L, c.length = sz) → L.flatten.length = L.length * sz
  | [], _ => by simp
  | c :: L, h => by
    rw [List.flatten_cons, List.length_append, flat_len (fun c hc => h c (List.mem_cons_of_mem _ hc)), h c (List.mem_cons_self ..), List.length_cons, Nat.add_mul]
    omega
theorem flat_get {sz : Nat} : ∀ {L : List (List Value)}, (∀ c ∈ L, c.length = sz) → ∀ (i j : Nat) (hi : i < L.length) (hj : j < sz), L.flatten[i * sz + j]? = (L[i])[j]?
  | [], _, i, j, hi, _ => absurd hi (by simp)
  | c :: L, h, 0, j, _, hj => by
    have hc := h c (List.mem_cons_self ..)
    simp only [List.flatten_cons, Nat.zero_mul, Nat.zero_add, List.getElem_cons_zero]
    rw [List.getElem?_append_left (by omega)]
  | c :: L, h, i+1, j, hi, hj => by
    have hc := h c (List.mem_cons_self ..)
    have hi' : i < L.length := by simpa using hi
    have e : (i + 1) * sz + j = c.length + (i * sz + j) := by rw [Nat.add_mul, hc]; omega
    rw [List.flatten_cons, e, List.getElem?_append_right (by omega), Nat.add_sub_cancel_left, flat_get (fun c hc => h c (List.mem_cons_of_mem _ hc)) i j hi' hj]
    simp
theorem flat_set {sz : Nat} : ∀ {L : List (List Value)}, (∀ c ∈ L, c.length = sz) → ∀ (i j : Nat) (hi : i < L.length) (hj : j < sz) (x : Value), L.flatten.set (i * sz + j) x = (L.set i ((L[i]).set j x)).flatten
  | [], _, i, j, hi, _, _ => absurd hi (by simp)
  | c :: L, h, 0, j, _, hj, x => by
    have hc := h c (List.mem_cons_self ..)
    simp only [List.flatten_cons, Nat.zero_mul, Nat.zero_add, List.set_cons_zero, List.getElem_cons_zero]
    rw [List.set_append_left _ _ (by omega)]
  | c :: L, h, i+1, j, hi, hj, x => by
    have hc := h c (List.mem_cons_self ..)
    have hi' : i < L.length := by simpa using hi
    have e : (i + 1) * sz + j = c.length + (i * sz + j) := by rw [Nat.add_mul, hc]; omega
    rw [List.flatten_cons, e, List.set_append_right _ _ (by omega), Nat.add_sub_cancel_left, flat_set (fun c hc => h c (List.mem_cons_of_mem _ hc)) i j hi' hj x]
    simp
theorem mem_set_len {sz : Nat} {L : List (List Value)} (h : ∀ c ∈ L, c.length = sz) (i : Nat) {d : List Value} (hd : d.length = sz) : ∀ c ∈ L.set i d, c.length = sz := by
  intro c hc
  rcases List.mem_or_eq_of_mem_set hc with h' | h'
  · exact h c h'
  · rw [h', hd]

/-- an owned row whose elements take sz cells each -/
def OwnC (w : World) (base E sz : Nat) (v : Value) (L : List (List Value)) : Prop := w.ownsRow base E sz v L.length L.flatten ∧ ∀ c ∈ L, c.length = sz

section
variable {w w' : World} {base base' E sz : Nat} {v : Value} {L : List (List Value)}
theorem OwnC.nil : OwnC w base E sz (.slice none 0 0) [] := ⟨World.ownsRow_nil _ _ _ _, fun c hc => by cases hc⟩
theorem OwnC.ext (h : OwnC w base E sz v L) (hx : Ext w w') : OwnC w' base E sz v L := by
  refine ⟨⟨h.1.1, ?_⟩, h.2⟩
  rcases h.1.2 with h2 | ⟨g, cap, cur, hv, hg, hh, r⟩
  · exact .inl h2
  · exact .inr ⟨g, cap, cur, hv, hg, (hx.block g (Array.getElem?_eq_some_iff.1 hh).1).trans hh, r⟩
theorem OwnC.lower (h : OwnC w base E sz v L) (hb : base' ≤ base) : OwnC w base' E sz v L :=
  ⟨⟨h.1.1, h.1.2.imp id fun ⟨g, cap, cur, hv, hg, r⟩ => ⟨g, cap, cur, hv, Nat.le_trans hb hg, r⟩⟩, h.2⟩
theorem OwnC.chg {lo hi : Nat} (h : OwnC w base E sz v L) (k : Chg lo hi w w') (hb : hi ≤ base) : OwnC w' base E sz v L := by
  refine ⟨⟨h.1.1, ?_⟩, h.2⟩
  rcases h.1.2 with h2 | ⟨g, cap, cur, hv, hg, hh, r⟩
  · exact .inl h2
  · exact .inr ⟨g, cap, cur, hv, hg, (k.block g (Array.getElem?_eq_some_iff.1 hh).1 (.inr (by omega))).trans hh, r⟩
theorem OwnC.form (h : OwnC w base E sz v L) : ∃ a c, v = .slice a L.length c := by
  rcases h.1.2 with ⟨rfl, h0⟩ | ⟨g, cap, cur, rfl, _⟩
  · rw [h0]; exact ⟨_, _, rfl⟩
  · exact ⟨_, _, rfl⟩
theorem OwnC.lt (h : OwnC w base E sz v L) (hn : L ≠ []) : ∃ g c, v = .slice (some ⟨g, 0, none⟩) L.length c ∧ v.ownBlock = some g ∧ base ≤ g ∧ g < w.heap.size ∧ L.length ≤ c ∧ c ≤ maxLen := by
  rcases h.1.2 with ⟨rfl, h0⟩ | ⟨g, cap, cur, rfl, hb, hh, h1, h2, _⟩
  · exact absurd (List.eq_nil_of_length_eq_zero h0) hn
  · exact ⟨g, cap, rfl, rfl, hb, (Array.getElem?_eq_some_iff.1 hh).1, h1, h2⟩
theorem OwnC.cell {g c : Nat} (h : OwnC w base E sz (.slice (some ⟨g, 0, none⟩) L.length c) L) (i j : Nat) (hi : i < L.length) (hj : j < sz) :
    w.cell? ⟨g, i * sz + j, none⟩ = (L[i])[j]? ∧ w.frozen? ⟨g, i * sz + j, none⟩ = false := by
  refine ⟨?_, World.ownsRow.frozenAt h.1 _⟩
  rw [World.ownsRow.cellAt h.1 _ ?_, flat_get h.2 i j hi hj]
  calc i * sz + j < i * sz + sz := by omega
    _ = (i + 1) * sz := by rw [Nat.add_mul]; omega
    _ ≤ L.length * sz := Nat.mul_le_mul_right _ hi
theorem OwnC.set {g c : Nat} (h : OwnC w base E sz (.slice (some ⟨g, 0, none⟩) L.length c) L) (i j : Nat) (hi : i < L.length) (hj : j < sz) (x : Value) :
    OwnC (w.setCell ⟨g, i * sz + j, none⟩ x) base E sz (.slice (some ⟨g, 0, none⟩) L.length c) (L.set i ((L[i]).set j x)) := by
  have h1 := (World.ownsRow.stored h.1 (i * sz + j) x).1
  rw [flat_set h.2 i j hi hj] at h1
  refine ⟨by rw [List.length_set]; exact h1, mem_set_len h.2 i ?_⟩
  rw [List.length_set]; exact h.2 _ (List.getElem_mem hi)
theorem OwnC.made (w : World) (cs : Array Value) (n : Nat) (hb : base ≤ w.heap.size) (hm : L.length ≤ maxLen) (hs : cs.toList = L.flatten) (hl : ∀ c ∈ L, c.length = sz) :
    OwnC (w.alloc (.cells cs E)) base E sz (.slice (some ⟨w.heap.size, 0, none⟩) L.length L.length) L := by
  refine ⟨?_, hl⟩
  rw [← hs]
  exact World.ownsRow_lit w cs L.length hb hm (by have := congrArg List.length hs; rw [flat_len hl] at this; simpa using this)

end
section
variable {T E sz bytes : Nat} {z : Value} {w : World} {base : Nat} {v src : Value} {L : List (List Value)} {c : List Value}
end

end Go.Proofs.Ytfbbnbpobojboaa

/- The contracts of library functions, laid at this translation: no condition. -/
namespace Go.Proofs
open Go.Shelf
def Try.lays189_ren : Go.Shelf.Ren := ⟨fun | 189 => 111 | 125 => 161 | 257 => 160 | 128 => 189 | 129 => 190 | 294 => 180 | 295 => 181 | 296 => 182 | 297 => 183 | 298 => 184 | 299 => 185 | 216 => 186 | 300 => 187 | 301 => 188 | 328 => 195 | 329 => 196 | 330 => 197 | 331 => 198 | 332 => 199 | 215 => 200 | 343 => 201 | n => n, fun | 28 => 22 | 3 => 3 | 46 => 146 | 0 => 0 | 51 => 164 | 53 => 166 | 4 => 4 | 183 => 157 | 182 => 156 | 131 => 161 | 5 => 5 | 9 => 9 | 218 => 168 | 222 => 172 | 228 => 174 | 229 => 175 | n => n, fun | n => n⟩
theorem Try.lays189 : Go.Proofs.Lays.n189 Try.prog Try.lays189_ren := {
  mixed := by kernel_rfl
  f125 := Try.func161.trans (congrArg some (by kernel_rfl))
  f128 := Try.func189.trans (congrArg some (by kernel_rfl))
  f129 := Try.func190.trans (congrArg some (by kernel_rfl))
  f189 := Try.func111.trans (congrArg some (by kernel_rfl))
  f215 := Try.func200.trans (congrArg some (by kernel_rfl))
  f216 := Try.func186.trans (congrArg some (by kernel_rfl))
  f257 := Try.func160.trans (congrArg some (by kernel_rfl))
  f294 := Try.func180.trans (congrArg some (by kernel_rfl))
  f295 := Try.func181.trans (congrArg some (by kernel_rfl))
  f296 := Try.func182.trans (congrArg some (by kernel_rfl))
  f297 := Try.func183.trans (congrArg some (by kernel_rfl))
  f298 := Try.func184.trans (congrArg some (by kernel_rfl))
  f299 := Try.func185.trans (congrArg some (by kernel_rfl))
  f300 := Try.func187.trans (congrArg some (by kernel_rfl))
  f301 := Try.func188.trans (congrArg some (by kernel_rfl))
  f328 := Try.func195.trans (congrArg some (by kernel_rfl))
  f329 := Try.func196.trans (congrArg some (by kernel_rfl))
  f330 := Try.func197.trans (congrArg some (by kernel_rfl))
  f331 := Try.func198.trans (congrArg some (by kernel_rfl))
  f332 := Try.func199.trans (congrArg some (by kernel_rfl))
  f343 := Try.func201.trans (congrArg some (by kernel_rfl))
  t0 := Try.underlying0
  a0 := Try.isAgg0
  z0 := Try.sizeOf0
  v0 := Try.zeroValue0
  t3 := Try.underlying3
  a3 := Try.isAgg3
  z3 := Try.sizeOf3
  v3 := Try.zeroValue3
  t4 := Try.underlying4
  a4 := Try.isAgg4
  z4 := Try.sizeOf4
  v4 := Try.zeroValue4
  t5 := Try.underlying5
  a5 := Try.isAgg5
  z5 := Try.sizeOf5
  v5 := Try.zeroValue5
  t9 := Try.underlying9
  a9 := Try.isAgg9
  z9 := Try.sizeOf9
  v9 := Try.zeroValue9
  t28 := Try.underlying22
  a28 := Try.isAgg22
  z28 := Try.sizeOf22
  v28 := Try.zeroValue22
  t46 := Try.underlying146
  a46 := Try.isAgg146
  z46 := Try.sizeOf146
  v46 := Try.zeroValue146
  t51 := Try.underlying164
  a51 := Try.isAgg164
  z51 := Try.sizeOf164
  v51 := Try.zeroValue164
  t53 := Try.underlying166
  a53 := Try.isAgg166
  z53 := Try.sizeOf166
  v53 := Try.zeroValue166
  t131 := Try.underlying161
  a131 := Try.isAgg161
  z131 := Try.sizeOf161
  v131 := Try.zeroValue161
  t182 := Try.underlying156
  a182 := Try.isAgg156
  z182 := Try.sizeOf156
  v182 := Try.zeroValue156
  t183 := Try.underlying157
  a183 := Try.isAgg157
  z183 := Try.sizeOf157
  v183 := Try.zeroValue157
  t218 := Try.underlying168
  a218 := Try.isAgg168
  z218 := Try.sizeOf168
  v218 := Try.zeroValue168
  t222 := Try.underlying172
  a222 := Try.isAgg172
  z222 := Try.sizeOf172
  v222 := Try.zeroValue172
  t228 := Try.underlying174
  a228 := Try.isAgg174
  z228 := Try.sizeOf174
  v228 := Try.zeroValue174
  t229 := Try.underlying175
  a229 := Try.isAgg175
  z229 := Try.sizeOf175
  v229 := Try.zeroValue175 }
open Go.Sort Go.RowKit in
theorem Try.slices_Sort_int (blk off cap : Nat) (zs : List Int) (w : World) (hH : Holds (Value.int .i64) w blk off zs.toArray) (hblk : blk < w.heap.size) (hsz : zs.length < 4611686018427387904) :
    Calls Try.prog 111 #[.slice (some ⟨blk, off, none⟩) zs.length cap] w fun e w' =>
      e = .returned (.tuple #[]) ∧ ∃ n os, w' = grow (putRow (Value.int .i64) (Sort.ahead w n) blk off (zs.mergeSort fun x y => decide (x ≤ y)).toArray) os := Any.slices_Sort_int Try.lays189 blk off cap zs w hH hblk hsz
open Go.RowKit Go.Sort in
theorem Try.slices_Sort_int_none (p : Option Addr) (cap : Nat) (w : World) :
    Calls Try.prog 111 #[.slice p 0 cap] w fun e w' => e = .returned (.tuple #[]) ∧ w' = w := Any.slices_Sort_int_none Try.lays189 p cap w
end Go.Proofs

/- Plain laws on lists of ints: ascending lists, sorted and compacted lists, lists of different numbers. -/
namespace Go.Proofs.Ytfbbnbpobojboaa

theorem asc_ext : ∀ (a b : List Int), a.Pairwise (· < ·) → b.Pairwise (· < ·) → (∀ x, x ∈ a ↔ x ∈ b) → a = b := by
  intro a
  induction a with
  | nil =>
    intro b _ _ h
    cases b with
    | nil => rfl
    | cons y b => exact absurd ((h y).2 (List.mem_cons_self ..)) (by simp)
  | cons x a ih =>
    intro b ha hb h
    cases b with
    | nil => exact absurd ((h x).1 (List.mem_cons_self ..)) (by simp)
    | cons y b =>
      rw [List.pairwise_cons] at ha hb
      have hxy : x = y := by
        have h1 := (h x).1 (List.mem_cons_self ..)
        have h2 := (h y).2 (List.mem_cons_self ..)
        rcases List.mem_cons.1 h1 with h1 | h1
        · exact h1
        · rcases List.mem_cons.1 h2 with h2 | h2
          · exact h2.symm
          · have := hb.1 x h1; have := ha.1 y h2; omega
      subst hxy
      rw [ih b ha.2 hb.2]
      intro z
      constructor
      · intro hz
        rcases List.mem_cons.1 ((h z).1 (List.mem_cons_of_mem _ hz)) with h1 | h1
        · subst h1; have := ha.1 z hz; omega
        · exact h1
      · intro hz
        rcases List.mem_cons.1 ((h z).2 (List.mem_cons_of_mem _ hz)) with h1 | h1
        · subst h1; have := hb.1 z hz; omega
        · exact h1

theorem asc_nodup {a : List Int} (h : a.Pairwise (· < ·)) : a.Nodup := h.imp (fun h => by omega)

def sortL (xs : List Int) : List Int := xs.mergeSort fun x y => decide (x ≤ y)
theorem sortL_len (xs : List Int) : (sortL xs).length = xs.length := List.length_mergeSort _
theorem sortL_mem (xs : List Int) (x : Int) : x ∈ sortL xs ↔ x ∈ xs := (List.mergeSort_perm _ _).mem_iff
theorem sortL_asc (xs : List Int) : (sortL xs).Pairwise (· ≤ ·) := by
  have := List.pairwise_mergeSort (le := fun x y : Int => decide (x ≤ y)) (by intro a b c; simp; omega) (by intro a b; simp; omega) xs
  exact this.imp (by simp)

/-- 0, 1, .. -/
def upL (n : Nat) : List Int := (List.range n).map fun i : Nat => (i : Int)
theorem upL_succ (n : Nat) : upL (n+1) = upL n ++ [(n : Int)] := by simp [upL, List.range_succ]
theorem upL_mem (n : Nat) (x : Int) : x ∈ upL n ↔ 0 ≤ x ∧ x < n := by
  simp only [upL, List.mem_map, List.mem_range]
  constructor
  · rintro ⟨i, hi, rfl⟩; omega
  · rintro ⟨h0, h1⟩; exact ⟨x.toNat, by omega, by omega⟩
theorem upL_asc (n : Nat) : (upL n).Pairwise (· < ·) := by
  rw [upL, List.pairwise_map]
  exact List.pairwise_lt_range.imp (by intros; omega)

end Go.Proofs.Ytfbbnbpobojboaa

/- The library's sort, compact, contains, index and equal on lists of ints, in the words of these proofs. -/
namespace Go.Proofs.Ytfbbnbpobojboaa
open Go.RowKit Go.Sort
set_option linter.unusedVariables false
set_option maxRecDepth 100000


theorem sort_c (xs : List Int) (v : Value) (w : World) (base : Nat) (h : OwnZ w base v xs) (hn : xs.length ≤ 4194304) (hbz : base ≤ w.heap.size) :
    Calls Try.prog 111 #[v] w fun e w' => e = .returned (.tuple #[]) ∧ OwnZ w' base v (sortL xs) ∧ Below base w w' := by
  rcases h with ⟨rfl, a, cap, rfl, hc, ha⟩ | h
  · refine (Try.slices_Sort_int_none a cap w).mono ?_
    rintro e w' ⟨rfl, rfl⟩
    exact ⟨rfl, .inl ⟨by simp [sortL], a, cap, rfl, hc, ha⟩, Below.refl _ _⟩
  · rcases h.2 with ⟨rfl, h0⟩ | ⟨g, cap, cur, rfl, hb, hg, hnc, hcm, hcs, ht⟩
    · obtain rfl : xs = [] := List.eq_nil_of_length_eq_zero h0
      refine (Try.slices_Sort_int_none none 0 w).mono ?_
      rintro e w' ⟨rfl, rfl⟩
      exact ⟨rfl, .inl ⟨by simp [sortL], none, 0, rfl, by simp, fun _ => rfl⟩, Below.refl _ _⟩
    · refine (Try.slices_Sort_int g 0 cap xs w (holds_of_blockI hg (by simpa using ht)) (Array.getElem?_eq_some_iff.1 hg).1 (by omega)).mono ?_
      rintro e w' ⟨rfl, n, os, rfl⟩
      refine ⟨rfl, .inr ?_, (Below.refl base w).grown (grownBy_sortedI _) hbz (fun k hk => by cases hk; exact hb)⟩
      unfold OwnI
      rw [sortL_len]
      exact ownsRow_sortedI (ts := sortL xs) (sortL_len xs) hb hg hnc hcm hcs

end Go.Proofs.Ytfbbnbpobojboaa

/- Walks: the cells of a view, told once; what two views have; places in a list; lists of different numbers. -/
namespace Go.Proofs.Ytfbbnbpobojboaa
open Go.RowKit
set_option linter.unusedVariables false
set_option maxRecDepth 100000

def placeL (xs : List Int) (n : Int) : Int := findI (fun x => x == n) xs

set_option maxHeartbeats 400000 in
theorem placeIn_c (xs : List Int) (v : Value) (n : Int) (w : World) (lo : Nat) (hv : Ints w lo v xs) :
    Calls Try.prog 139 #[v, .int .i64 n] w fun e w' => e = .returned (.int .i64 (placeL xs n)) ∧ w = w' := by
  obtain ⟨a, cap, rfl, hlc, hcm, ⟨hlen, _⟩, hc⟩ := hv
  go_enter Try.func139, Try.ntmps139
  go_wp2_with fail
  go_loop [5] (fun i => ∃ k : Nat, k ≤ xs.length ∧ i = .int .i64 k ∧ (xs.take k).any (fun x => x == n) = false) (fun i => xs.length - (intOf i).toNat)
  case atStart => exact ⟨0, Nat.zero_le _, rfl, rfl⟩
  case round =>
    obtain ⟨k, hk, rfl, hall0⟩ := hrel
    have hall := Lib.hid hall0
    clear hall0
    by_cases hlt : k < xs.length
    · obtain ⟨b, off, rfl, _, hcell, _⟩ := hc k hlt
      clear hc
      cases hp : (xs[k] == n)
      · go_wp2_with fail
        go_round
        case rel => exact ⟨k+1, by omega, by go_num, any_take _ xs k hlt hall.out hp⟩
        case measure => simp [intOf]; omega
      · have hs := Lib.hid (findI_yes (fun x => x == n) xs k hlt hall.out hp)
        go_wp2_with fail
        go_ret
        exact ⟨by unfold placeL; rw [hs.out]; rfl, rfl⟩
    · obtain rfl : k = xs.length := by omega
      go_wp2_with fail
      go_ret
      exact ⟨by unfold placeL; rw [findI_no _ xs (by simpa using hall.out)]; rfl, rfl⟩

theorem placeL_ge (xs : List Int) (n : Int) : decide (0 ≤ placeL xs n) = xs.contains n := by
  unfold placeL; rw [findI_ge, List.contains_eq_any_beq]
  congr 1; funext x; rw [Bool.eq_iff_iff]; simp; exact eq_comm

set_option maxHeartbeats 400000 in
theorem different_c (xs : List Int) (v : Value) (w : World) (lo : Nat) (hv : Ints w lo v xs) :
    Calls Try.prog 108 #[v] w fun e w' => e = .returned (.bool (decide xs.Nodup)) ∧ Ext w w' := by
  have hv0 := Lib.hid hv
  obtain ⟨a, cap, rfl, hlc, hcm, ⟨hlen, _⟩, hc⟩ := hv
  unfold maxLen at hcm
  go_enter Try.func108, Try.ntmps108
  go_wp2_with fail
  go_loopw [3] (fun i wr => ∃ k : Nat, k ≤ xs.length ∧ i = .int .i64 k ∧ (xs.take k).Nodup ∧ Ext w wr) (fun i _ => xs.length - (intOf i).toNat)
  case atStart => exact ⟨0, Nat.zero_le _, rfl, by simp, Ext.refl _⟩
  case round =>
    obtain ⟨k, hk, rfl, hnd0, hx⟩ := hrel
    have hnd := Lib.hid hnd0
    clear hnd0
    by_cases hlt : k < xs.length
    · obtain ⟨b, off, rfl, _, hcell0, _⟩ := hc k hlt
      have hcell := hx.cell hcell0
      have hk4 : (k : Int) < xs.length := by omega
      have hk5 : (k : Int) ≤ cap := by omega
      have hp := placeL_ge (xs.take k) xs[k]
      have hgd : xs.getD k 0 = xs[k] := by simp [hlt]
      have hvt := Lib.hid ((hv0.out.ext hx).take k (by omega))
      clear hc hcell0
      cases h1 : (xs.take k).contains xs[k]
      · have hn : placeL (xs.take k) xs[k] < 0 := by rw [h1] at hp; simpa using hp
        have hnd2 := Lib.hid (show (xs.take (k+1)).Nodup by
          rw [List.take_succ_eq_append_getElem hlt, List.nodup_append]
          refine ⟨hnd.out, by simp, ?_⟩
          intro y hy z hz; simp at hz; subst hz
          intro he; subst he
          rw [List.contains_iff_mem.2 hy] at h1; cases h1)
        clear h1 hp
        rw [hgd] at hcell
        clear hgd
        go_wp2_with fail
        go_quiet ((go_at_call 139; exact quiet_left (placeIn_c (xs.take k) _ _ _ lo (hvt.out.ext (by exact (Ext.refl _).drewN _)))))
        go_wp2_with fail
        go_roundw
        case rel => exact ⟨k+1, by omega, by go_num, hnd2.out, hx.drewN _⟩
        case measure => simp [intOf]; omega
      · have hn : 0 ≤ placeL (xs.take k) xs[k] := by rw [h1] at hp; simpa using hp
        have hnd2 := Lib.hid (show ¬ xs.Nodup by
          intro hN
          have h2 : xs[k] ∈ xs.take k := List.contains_iff_mem.1 h1
          have h3 := hN
          rw [← List.take_append_drop k xs, List.nodup_append] at h3
          exact h3.2.2 _ h2 _ (by rw [List.drop_eq_getElem_cons hlt]; exact List.mem_cons_self ..) rfl)
        clear h1 hp
        rw [hgd] at hcell
        clear hgd
        go_wp2_with fail
        go_quiet ((go_at_call 139; exact quiet_left (placeIn_c (xs.take k) _ _ _ lo (hvt.out.ext (by exact (Ext.refl _).drewN _)))))
        go_wp2_with fail
        go_ret
        exact ⟨by rw [decide_eq_false hnd2.out]; rfl, hx.drewN _⟩
    · obtain rfl : k = xs.length := by omega
      go_wp2_with fail
      go_ret
      exact ⟨by have := hnd.out; rw [List.take_length] at this; rw [decide_eq_true this]; rfl, hx⟩

end Go.Proofs.Ytfbbnbpobojboaa

/- Walks: one to one views, what two views have, and the program's exported questions about them. -/
namespace Go.Proofs.Ytfbbnbpobojboaa
open Go.RowKit
set_option linter.unusedVariables false
set_option maxRecDepth 100000

end Go.Proofs.Ytfbbnbpobojboaa

/- Plain laws: the program's words on cells are the reference's. -/
namespace Go.Proofs.Ytfbbnbpobojboaa
open Go.RowKit

end Go.Proofs.Ytfbbnbpobojboaa

/- Plain laws on ranges of ints: the numbers of a range, normal forms, progressions. -/
namespace Go.Proofs.Ytfbbnbpobojboaa
set_option linter.unusedVariables false

/-- sets of numbers that go on by their own differences -/
def ApS (S : Int → Prop) : Prop := ∀ x y z u v, S x → S y → S z → S u → S v → x ≤ z + (v - u) → z + (v - u) ≤ y → S (z + (v - u))
theorem ApS.and {S T : Int → Prop} (h : ApS S) (k : ApS T) : ApS fun x => S x ∧ T x :=
  fun x y z u v hx hy hz hu hv h1 h2 => ⟨h x y z u v hx.1 hy.1 hz.1 hu.1 hv.1 h1 h2, k x y z u v hx.2 hy.2 hz.2 hu.2 hv.2 h1 h2⟩
theorem ApS.congr {S T : Int → Prop} (h : ApS S) (k : ∀ x, S x ↔ T x) : ApS T :=
  fun x y z u v hx hy hz hu hv h1 h2 => (k _).1 (h x y z u v ((k _).2 hx) ((k _).2 hy) ((k _).2 hz) ((k _).2 hu) ((k _).2 hv) h1 h2)
end Go.Proofs.Ytfbbnbpobojboaa

/- Plain laws: repeated cells, gaps between cells, later and earlier cells. -/
namespace Go.Proofs.Ytfbbnbpobojboaa
open Go.RowKit
set_option linter.unusedVariables false

end Go.Proofs.Ytfbbnbpobojboaa

/- Words for loops that append to a row of their own beside a list that they read. No condition. -/
namespace Go.Proofs.Ytfbbnbpobojboaa
open Go.RowKit
set_option linter.unusedVariables false

theorem Ext.frz {w w' : World} (h : Ext w w') {b o : Nat} {f : Bool} (hb : b < w.heap.size) (hf : w.frozen? ⟨b, o, none⟩ = f) : w'.frozen? ⟨b, o, none⟩ = f := (h.frule b o hb).trans hf

/-- the row v of the call's own, blocks from B on, reads ys; the list u, which is only read, lies apart from it -/
structure Beside (B : Nat) (w0 wr : World) (v : Value) (ys : List Int) (u : Value) (xs : List Int) : Prop where
  own : OwnI wr B v ys
  bel : Below B w0 wr
  ints : Ints wr 0 u xs
  size : B ≤ wr.heap.size
  sep : xs ≠ [] → ∀ b off n c, u = .slice (some ⟨b, off, none⟩) n c → v.ownBlock ≠ some b

theorem Beside.ext {B : Nat} {w0 wr w3 : World} {v u : Value} {ys xs : List Int} (h : Beside B w0 wr v ys u xs) (hx : Ext wr w3) : Beside B w0 w3 v ys u xs :=
  ⟨h.own.ext hx, Below.trans h.bel (Below.mono hx h.size), h.ints.ext hx, Nat.le_trans h.size hx.size, h.sep⟩

theorem Ints.drop {w : World} {lo : Nat} {a : Option Addr} {n c : Nat} {xs : List Int} (h : Ints w lo (.slice a n c) xs) (k : Nat) (hk : k ≤ n) : Ints w lo (.slice (if c = k then a else a.map (·.add k)) (n - k) (c - k)) (xs.drop k) := by
  obtain ⟨a', cap, hv, h1, h2, ⟨h3, h3'⟩, h4⟩ := h
  cases hv
  have hl : (xs.drop k).length = xs.length - k := by simp
  refine ⟨_, c - k, by rw [hl], by omega, by omega, ⟨by omega, fun e => ?_⟩, fun i hi => ?_⟩
  · by_cases hc : c = k
    · omega
    · rw [if_neg hc] at e
      cases a with
      | none => have := h3' rfl; omega
      | some ad => simp at e
  · obtain ⟨b, off, rfl, hb, hc, hf⟩ := h4 (k + i) (by omega)
    rw [if_neg (by omega)]
    have e : (⟨b, off, none⟩ : Addr).add k = ⟨b, off + k, none⟩ := by unfold Addr.add; split <;> simp_all
    refine ⟨b, off + k, by rw [Option.map_some, e], hb, ?_, by rw [Nat.add_assoc]; exact hf⟩
    rw [Nat.add_assoc, hc]
    simp [show k + i < xs.length by omega]

theorem PInts.of {w w' : World} {lo base : Nat} {xs : List Int} {v : Value} (h : OwnZ w' base v xs) (hi : Ints w' lo v xs) (hb : w.heap.size ≤ base) (hx : Ext w w') : PInts w xs (.returned v) w' := PInts.mkz h hb hi.len hx

theorem OwnI.made (w : World) (base n : Nat) (hb : base ≤ w.heap.size) (hn : n ≤ 4194304) : OwnI (w.alloc (.cells (madeCells #[Value.int .i64 0] n) 3)) base (.slice (some ⟨w.heap.size, 0, none⟩) n n) (List.replicate n 0) := by
  have := World.ownsRow_lit (e := 3) (size := 1) w (madeCells #[Value.int .i64 0] n) n hb (by unfold maxLen; omega) (by simp [madeCells])
  unfold OwnI
  rw [made_ints] at this
  simpa using this

end Go.Proofs.Ytfbbnbpobojboaa

/- Walks: WayOf of the program and of the reference. -/
namespace Go.Proofs.Ytfbbnbpobojboaa
open Go.RowKit
set_option linter.unusedVariables false
set_option maxRecDepth 100000

end Go.Proofs.Ytfbbnbpobojboaa

/- Walks: values that are loaded from and stored in memories, of the program and of the reference. -/
namespace Go.Proofs.Ytfbbnbpobojboaa
open Go.RowKit
set_option linter.unusedVariables false
set_option maxRecDepth 100000

theorem OwnI.row {w : World} {base : Nat} {v : Value} {xs : List Int} (h : OwnI w base v xs) (hn : xs ≠ []) : ∃ g cap, v = .slice (some ⟨g, 0, none⟩) xs.length cap ∧ base ≤ g ∧ g < w.heap.size := by
  rcases h.2 with ⟨rfl, h0⟩ | ⟨g, cap, cur, rfl, hb, hg, _⟩
  · exact absurd (List.eq_nil_of_length_eq_zero h0) hn
  · exact ⟨g, cap, rfl, hb, (Array.getElem?_eq_some_iff.1 hg).1⟩

end Go.Proofs.Ytfbbnbpobojboaa

/- Words for memory: rows of records, told by cells. No condition. -/
namespace Go.Proofs.Ytfbbnbpobojboaa
open Go.RowKit
set_option linter.unusedVariables false
set_option maxRecDepth 100000

section
variable {w w' : World} {base E sz : Nat} {v : Value} {L : List (List Value)}
theorem OwnC.blkM (h : OwnC w base E sz v L) (g : Nat) (hg : v.ownBlock = some g) : base ≤ g ∧ g < w.heap.size := World.ownsRow.lt h.1 g hg
theorem OwnC.setM {g n c : Nat} (h : OwnC w base E sz (.slice (some ⟨g, 0, none⟩) n c) L) (hn : n = L.length) (i j : Nat) (hi : i < L.length) (hj : j < sz) (x : Value) :
    OwnC (w.setCell ⟨g, i * sz + j, none⟩ x) base E sz (.slice (some ⟨g, 0, none⟩) n c) (L.set i ((L[i]).set j x)) := by subst hn; exact h.set i j hi hj x
theorem OwnC.cellM {g n c : Nat} (h : OwnC w base E sz (.slice (some ⟨g, 0, none⟩) n c) L) (hn : n = L.length) (i j : Nat) (hi : i < L.length) (hj : j < sz) : w.cell? ⟨g, i * sz + j, none⟩ = (L[i])[j]? ∧ w.frozen? ⟨g, i * sz + j, none⟩ = false := by subst hn; exact h.cell i j hi hj
end
theorem made_flatM (zs : List Value) (sz : Nat) (hz : zs.length = sz) (hsz : 0 < sz) (n : Nat) : (madeCells zs.toArray (n * sz)).toList = (List.replicate n zs).flatten := by
  have hall : ∀ c ∈ List.replicate n zs, c.length = sz := fun c hc => by rw [List.eq_of_mem_replicate hc]; exact hz
  refine List.ext_getElem (by rw [flat_len hall]; simp [size_madeCells]) fun i h1 h2 => ?_
  have h : i < n * sz := by simpa [size_madeCells] using h1
  have e : i / sz * sz + i % sz = i := by rw [Nat.mul_comm]; exact Nat.div_add_mod i sz
  have h3 : i / sz < n := Nat.div_lt_of_lt_mul (by rw [Nat.mul_comm]; exact h)
  have h4 : i % sz < sz := Nat.mod_lt _ hsz
  have k := flat_get hall (i / sz) (i % sz) (by simpa using h3) h4
  rw [e, List.getElem?_eq_getElem h2, List.getElem_replicate, List.getElem?_eq_getElem (by omega)] at k
  rw [Option.some.inj k]
  simp [madeCells, hz]
  rw [List.getElem?_eq_getElem (by omega)]; rfl
/-- what is left of the size that a law allows -/
def PLeftM (need : Nat) (left : Int) (w : World) (e : Ending) (w' : World) : Prop := ∃ L : Int, e = .returned (.int .i64 L) ∧ -1 ≤ L ∧ L ≤ 1048576 ∧ (0 ≤ L → (need : Int) + L = left) ∧ Ext w w'
end Go.Proofs.Ytfbbnbpobojboaa

/- Plain laws: products of extents, ranks of indices, other shapes of the same cells. -/
namespace Go.Proofs.Ytfbbnbpobojboaa
open Go.RowKit
set_option linter.unusedVariables false

/-- a few extents, none of them great -/
def Small (xs : List Int) : Prop := xs.length ≤ 4 ∧ ∀ e ∈ xs, 0 ≤ e ∧ e ≤ 60
theorem Small.of {xs : List Int} (h : shapeB xs = true) : Small xs := ⟨(shapeB_in h).1, (shapeB_in h).2.1⟩
theorem Small.drop {xs : List Int} (h : Small xs) (k : Nat) : Small (xs.drop k) := ⟨by have := h.1; simp; omega, fun e he => h.2 e (List.mem_of_mem_drop he)⟩
theorem Small.take {xs : List Int} (h : Small xs) (k : Nat) : Small (xs.take k) := ⟨by have := h.1; simp; omega, fun e he => h.2 e (List.mem_of_mem_take he)⟩
end Go.Proofs.Ytfbbnbpobojboaa

/- Plain laws on views: indices in order, the cells of indices, ranks. -/
namespace Go.Proofs.Ytfbbnbpobojboaa
open Go.RowKit
set_option linter.unusedVariables false
set_option maxRecDepth 100000

/-- is it an index of a shape? -/
def IxOf : List Int → List Int → Prop
  | [], [] => True
  | e :: s, x :: r => (0 ≤ x ∧ x < e) ∧ IxOf s r
  | _, _ => False
theorem IxOf.len : ∀ {s r : List Int}, IxOf s r → r.length = s.length
  | [], [], _ => rfl
  | e :: s, x :: r, h => by simp [IxOf.len h.2]
  | [], x :: r, h => h.elim
  | e :: s, [], h => h.elim
theorem IxOf.pos : ∀ {s r : List Int}, IxOf s r → ∀ e ∈ s, 1 ≤ e
  | [], _, _ => by simp
  | e :: s, x :: r, h => by
    intro q hq
    rcases List.mem_cons.1 hq with rfl | hq
    · have := h.1; omega
    · exact IxOf.pos h.2 q hq
  | e :: s, [], h => h.elim
end Go.Proofs.Ytfbbnbpobojboaa

/- Walks: SwapViews of the program and of the reference. -/
namespace Go.Proofs.Ytfbbnbpobojboaa
open Go.RowKit
set_option linter.unusedVariables false
set_option maxRecDepth 100000

/-- a call hands back a new list and whether it could be made -/
def PIntsB (w : World) (xs : List Int) (b : Bool) (e : Ending) (w' : World) : Prop := ∃ v, e = .returned (.tuple #[v, .bool b]) ∧ Ints w' w.heap.size v xs ∧ OwnZ w' w.heap.size v xs ∧ Ext w w'
theorem PIntsB.no {w w' : World} (h : Ext w w') : PIntsB w [] false (.returned (.tuple #[.slice none 0 0, .bool false])) w' :=
  ⟨_, rfl, Ints.nil _ _ _ _ (by simp) (fun _ => rfl), .inl ⟨rfl, none, 0, rfl, by simp, fun _ => rfl⟩, h⟩
end Go.Proofs.Ytfbbnbpobojboaa

/- Walks: CellsOf and OverlapOf of the program and of the reference. -/
namespace Go.Proofs.Ytfbbnbpobojboaa
open Go.RowKit
set_option linter.unusedVariables false
set_option maxRecDepth 100000

end Go.Proofs.Ytfbbnbpobojboaa

/- Walks: normal forms of ranges, LineOf of the program and of the reference, comparison of ranges. -/
namespace Go.Proofs.Ytfbbnbpobojboaa
open Go.RowKit
set_option linter.unusedVariables false
set_option maxRecDepth 100000

end Go.Proofs.Ytfbbnbpobojboaa

/- Walks: valid ranges and the numbers of a range, of the program and of the reference. -/
namespace Go.Proofs.Ytfbbnbpobojboaa
open Go.RowKit
set_option linter.unusedVariables false
set_option maxRecDepth 100000

end Go.Proofs.Ytfbbnbpobojboaa

/- Walks towards SplitDim: dimensions, ranks. -/
namespace Go.Proofs.Ytfbbnbpobojboaa
open Go.RowKit
set_option linter.unusedVariables false
set_option maxRecDepth 100000

end Go.Proofs.Ytfbbnbpobojboaa

/- A copy of a view by the reference. -/
namespace Go.Proofs.Ytfbbnbpobojboaa
open Go.RowKit
set_option linter.unusedVariables false
set_option maxRecDepth 100000

end Go.Proofs.Ytfbbnbpobojboaa

/- Walks: a view that the reference hands back, with a bool. -/
namespace Go.Proofs.Ytfbbnbpobojboaa
open Go.RowKit
set_option linter.unusedVariables false
set_option maxRecDepth 100000

/-- a call hands back a new view and a bool -/
def PViewB (w : World) (base : Int) (shape strides : List Int) (b : Bool) (e : Ending) (w' : World) : Prop :=
  ∃ sh st, e = .returned (.tuple #[.agg #[.int .i64 base, sh, st], .bool b]) ∧ Ints w' w.heap.size sh shape ∧ Ints w' w.heap.size st strides ∧ OwnZ w' w.heap.size sh shape ∧ OwnZ w' w.heap.size st strides ∧
    (shape ≠ [] → strides ≠ [] → sh.ownBlock ≠ st.ownBlock) ∧ Ext w w'
theorem PViewB.no {w w' : World} (h : Ext w w') : PViewB w 0 [] [] false (.returned (.tuple #[.agg #[.int .i64 0, .slice none 0 0, .slice none 0 0], .bool false])) w' :=
  ⟨_, _, rfl, Ints.nil _ _ _ _ (by simp) (fun _ => rfl), Ints.nil _ _ _ _ (by simp) (fun _ => rfl), .inl ⟨rfl, none, 0, rfl, by simp, fun _ => rfl⟩, .inl ⟨rfl, none, 0, rfl, by simp, fun _ => rfl⟩, fun h => absurd rfl h, h⟩

theorem PViewB.put {w w1 w2 : World} {base : Int} {shape strides : List Int} {v1 v2 : Value} {a b c : Addr} {u v x : Value} {g : Nat} (l1 : shape.length ≤ 4194304) (l2 : strides.length ≤ 4194304) (o1 : OwnZ w2 w1.heap.size v1 shape) (o2 : OwnZ w2 w1.heap.size v2 strides)
    (od : shape ≠ [] → strides ≠ [] → v1.ownBlock ≠ v2.ownBlock) (hz : w.heap.size ≤ w1.heap.size ∧ g < w1.heap.size) (ha : a.block = g) (hb : b.block = g) (hc : c.block = g) (hx : Ext w (((w2.setCell a u).setCell b v).setCell c x)) :
    PViewB w base shape strides true (.returned (.tuple #[.agg #[.int .i64 base, v1, v2], .bool true])) (((w2.setCell a u).setCell b v).setCell c x) := by
  have o1' := ((o1.setCell_below (a := a) (by omega) u).setCell_below (a := b) (by omega) v).setCell_below (a := c) (by omega) x
  have o2' := ((o2.setCell_below (a := a) (by omega) u).setCell_below (a := b) (by omega) v).setCell_below (a := c) (by omega) x
  exact ⟨v1, v2, rfl, (o1'.lower hz.1).ints l1, (o2'.lower hz.1).ints l2, o1'.lower hz.1, o2'.lower hz.1, od, hx⟩
end Go.Proofs.Ytfbbnbpobojboaa

/- Walks: strides by rows and numbers in order, of the reference; orders of dimensions. -/
namespace Go.Proofs.Ytfbbnbpobojboaa
open Go.RowKit
set_option linter.unusedVariables false
set_option maxRecDepth 100000

end Go.Proofs.Ytfbbnbpobojboaa

/- Walks: new views of the reference, tidy views. -/
namespace Go.Proofs.Ytfbbnbpobojboaa
open Go.RowKit
set_option linter.unusedVariables false
set_option maxRecDepth 100000

theorem PView.no {w w' : World} (h : Ext w w') : PView w 0 [] [] (.returned (.agg #[.int .i64 0, .slice none 0 0, .slice none 0 0])) w' :=
  ⟨_, _, rfl, Ints.nil _ _ _ _ (by simp) (fun _ => rfl), Ints.nil _ _ _ _ (by simp) (fun _ => rfl), .inl ⟨rfl, none, 0, rfl, by simp, fun _ => rfl⟩, .inl ⟨rfl, none, 0, rfl, by simp, fun _ => rfl⟩, fun h => absurd rfl h, h⟩
theorem PView.two {w w' : World} {base : Int} {shape strides : List Int} {v1 v2 : Value} {b1 b2 m : Nat} (o1 : OwnZ w' b1 v1 shape) (o2 : OwnZ w' b2 v2 strides) (h1 : w.heap.size ≤ b1) (h2 : w.heap.size ≤ b2)
    (hd : (shape ≠ [] → ∀ g, v1.ownBlock = some g → g < m) ∧ m ≤ b2 ∨ (strides ≠ [] → ∀ g, v2.ownBlock = some g → g < m) ∧ m ≤ b1) (l1 : shape.length ≤ 4194304) (l2 : strides.length ≤ 4194304) (hx : Ext w w') : PView w base shape strides (.returned (.agg #[.int .i64 base, v1, v2])) w' := by
  refine ⟨v1, v2, rfl, (o1.lower h1).ints l1, (o2.lower h2).ints l2, o1.lower h1, o2.lower h2, fun n1 n2 => ?_, hx⟩
  obtain ⟨g1, e1, t1, _⟩ := o1.lt n1
  obtain ⟨g2, e2, t2, _⟩ := o2.lt n2
  rw [e1, e2]
  rcases hd with ⟨hd, hm⟩ | ⟨hd, hm⟩
  · have := hd n1 g1 e1; simp; omega
  · have := hd n2 g2 e2; simp; omega

theorem Chg.three {lo : Nat} (w : World) (x y z : Value) : Chg lo (lo + 1) w (((w.setCell ⟨lo, 0, none⟩ x).setCell ⟨lo, 1, none⟩ y).setCell ⟨lo, 2, none⟩ z) :=
  (((Chg.refl lo (lo + 1) w).setCell (p := ⟨lo, 0, none⟩) (Nat.le_refl _) (Nat.lt_succ_self _) _).setCell (p := ⟨lo, 1, none⟩) (Nat.le_refl _) (Nat.lt_succ_self _) _).setCell (p := ⟨lo, 2, none⟩) (Nat.le_refl _) (Nat.lt_succ_self _) _

end Go.Proofs.Ytfbbnbpobojboaa

/- Walks: tidy views, a number put into a list (of the reference). -/
namespace Go.Proofs.Ytfbbnbpobojboaa
open Go.RowKit
set_option linter.unusedVariables false
set_option maxRecDepth 100000

end Go.Proofs.Ytfbbnbpobojboaa

/- Plain laws on views: the cells of all indices, views that are drawn out of views. -/
namespace Go.Proofs.Ytfbbnbpobojboaa
open Go.RowKit
set_option linter.unusedVariables false
set_option maxRecDepth 100000

end Go.Proofs.Ytfbbnbpobojboaa

/- Plain laws on views: the cell at a rank, indices one step apart. -/
namespace Go.Proofs.Ytfbbnbpobojboaa
open Go.RowKit
set_option linter.unusedVariables false
set_option maxRecDepth 100000

theorem offs_count {b : Int} {s t : List Int} : (offsL b s t).length = (countL s).toNat := by unfold offsL; simp

end Go.Proofs.Ytfbbnbpobojboaa

/- Plain laws on views: dimensions as pairs, in any order; what makes a view one, by its least and greatest cell. -/
namespace Go.Proofs.Ytfbbnbpobojboaa
open Go.RowKit
set_option linter.unusedVariables false
set_option maxRecDepth 100000

end Go.Proofs.Ytfbbnbpobojboaa

/- Walks: MeetRanges of the program and of the reference. -/
namespace Go.Proofs.Ytfbbnbpobojboaa
open Go.RowKit
set_option linter.unusedVariables false
set_option maxRecDepth 100000

end Go.Proofs.Ytfbbnbpobojboaa

/- Walks: what is asked of ranges: lengths, numbers, places, covers. -/
namespace Go.Proofs.Ytfbbnbpobojboaa
open Go.RowKit
set_option linter.unusedVariables false
set_option maxRecDepth 100000

end Go.Proofs.Ytfbbnbpobojboaa

/- Walks: slices of the reference: valid ones, ends, indices, and what a slice takes of a range. -/
namespace Go.Proofs.Ytfbbnbpobojboaa
open Go.RowKit
set_option linter.unusedVariables false
set_option maxRecDepth 100000

end Go.Proofs.Ytfbbnbpobojboaa

/- Plain laws: numbers in a row and their normal range; a view of some indices of a dimension. -/
namespace Go.Proofs.Ytfbbnbpobojboaa
open Go.RowKit
set_option linter.unusedVariables false
set_option maxRecDepth 100000

/-- where an element lies -/
theorem Ints.at {w : World} {lo : Nat} {a : Option Addr} {n c : Nat} {xs : List Int} (h : Ints w lo (.slice a n c) xs) (i : Nat) (hi : i < xs.length) : ∃ b off, a = some ⟨b, off, none⟩ ∧ w.cell? ⟨b, off + i, none⟩ = some (.int .i64 (xs.getD i 0)) := by
  obtain ⟨a', cap, hv, h1, h2, h3, h4⟩ := h
  cases hv
  obtain ⟨b, off, ha, hb, hc, hf⟩ := h4 i hi
  exact ⟨b, off, ha, hc⟩

end Go.Proofs.Ytfbbnbpobojboaa

/- A region that draws its order, shown once for every order: each operation is shown at whatever world may stand when it comes up, from what those told that it waits for; what each tells must last. No condition. -/
namespace Go.Proofs.Ytfbbnbpobojboaa.RG
open Go
set_option linter.unusedVariables false
section
variable {P : Program} {ops : Array Oper} {md : Region.Mode}

def dst (ops : Array Oper) (i : Nat) : Option Tmp := (ops[i]?).bind (·.dst)
/-- facts told one by one -/
def Alls (F : Nat → Prop) : Nat → Nat → Prop
  | _, 0 => True
  | k, m+1 => F k ∧ Alls F (k+1) m
theorem Alls.mk {F : Nat → Prop} : ∀ (m k : Nat), (∀ i, i < m → F (k + i)) → Alls F k m
  | 0, k, _ => trivial
  | m+1, k, h => ⟨h 0 (by omega), Alls.mk m (k+1) fun i hi => by have := h (i+1) (by omega); rwa [show k + (i + 1) = k + 1 + i by omega] at this⟩

end
end Go.Proofs.Ytfbbnbpobojboaa.RG

/- Walks: the reader of the drawn arguments: its numbers. -/
namespace Go.Proofs.Ytfbbnbpobojboaa
open Go.RowKit
set_option linter.unusedVariables false
set_option maxRecDepth 100000

/-- a slice of a few bytes, in blocks below hi -/
def Bys (w : World) (hi : Nat) (a : Option Addr) (n cap : Nat) : Prop :=
  n ≤ cap ∧ cap ≤ maxLen ∧ n ≤ 2000 ∧ ∀ i, i < n → ∃ b off x, a = some ⟨b, off, none⟩ ∧ b < hi ∧ w.cell? ⟨b, off + i, none⟩ = some (.int .u8 x) ∧ 0 ≤ x ∧ x < 256
/-- the reader at block rb, of which at most k numbers were asked -/
structure Rd (w : World) (rb k : Nat) : Prop where
  ex : ∃ a n cap p, (0 ≤ p ∧ p ≤ (k : Int)) ∧ w.cell? ⟨rb, 0, none⟩ = some (.slice a n cap) ∧ w.cell? ⟨rb, 1, none⟩ = some (.int .i64 p) ∧ w.frozen? ⟨rb, 1, none⟩ = false ∧ Bys w rb a n cap
theorem Bys.chg {w w' : World} {hi lo h2 : Nat} {a : Option Addr} {n cap : Nat} (h : Bys w hi a n cap) (k : Chg lo h2 w w') (hl : hi ≤ lo) : Bys w' hi a n cap := by
  obtain ⟨h1, h2, h3, h4⟩ := h
  refine ⟨h1, h2, h3, fun i hi => ?_⟩
  obtain ⟨b, off, x, ha, hb, hc, hx⟩ := h4 i hi
  exact ⟨b, off, x, ha, hb, k.cell (.inl (by omega)) hc, hx⟩
theorem Rd.ext {w w' : World} {rb k : Nat} (h : Rd w rb k) (hx : Ext w w') : Rd w' rb k := by
  obtain ⟨a, n, cap, p, hp, h0, h1, h2, hb⟩ := h.ex
  refine ⟨a, n, cap, p, hp, hx.cell h0, hx.cell h1, (hx.frule rb 1 (qB h1)).trans h2, ?_⟩
  obtain ⟨g1, g2, g3, g4⟩ := hb
  refine ⟨g1, g2, g3, fun i hi => ?_⟩
  obtain ⟨b, off, x, ha, hbb, hc, hxx⟩ := g4 i hi
  exact ⟨b, off, x, ha, hbb, hx.cell hc, hxx⟩
theorem Rd.mono {w : World} {rb k k' : Nat} (h : Rd w rb k) (hk : k ≤ k') : Rd w rb k' := by
  obtain ⟨a, n, cap, p, hp, r⟩ := h.ex
  exact ⟨a, n, cap, p, by omega, r⟩
theorem Rd.lt {w : World} {rb k : Nat} (h : Rd w rb k) : rb < w.heap.size := by
  obtain ⟨a, n, cap, p, hp, h0, _⟩ := h.ex
  exact qB h0
/-- cells of other blocks than the reader's -/
theorem Rd.chgO {w w' : World} {rb k lo hi : Nat} (h : Rd w rb k) (c : Chg lo hi w w') (hl : rb < lo) : Rd w' rb k := by
  obtain ⟨a, n, cap, p, hp, h0, h1, h2, hb⟩ := h.ex
  refine ⟨a, n, cap, p, hp, c.cell (.inl hl) h0, c.cell (.inl hl) h1, ?_, hb.chg c (by omega)⟩
  exact (World.frozen?_of_block (a := ⟨rb, 1, none⟩) (c.block rb (qB h1) (.inl hl))).trans h2

/-- the bytes that the law was called with -/
def BysIn (w : World) (a : Option Addr) (n cap : Nat) : Prop :=
  n ≤ cap ∧ cap ≤ maxLen ∧ ∀ i, i < n → ∃ b off x, a = some ⟨b, off, none⟩ ∧ w.cell? ⟨b, off + i, none⟩ = some (.int .u8 x) ∧ 0 ≤ x ∧ x < 256
theorem Rd.alloc {w : World} {rb k : Nat} (h : Rd w rb k) (o : Obj) : Rd (w.alloc o) rb k := h.ext ((Ext.refl _).alloc _)
theorem Rd.drew {w : World} {rb k : Nat} (h : Rd w rb k) : Rd w.drew rb k := h.ext ((Ext.refl _).drew)
theorem Rd.drewN {w : World} {rb k : Nat} (h : Rd w rb k) (n : Nat) : Rd (w.drewN n) rb k := h.ext ((Ext.refl _).drewN n)
theorem Rd.set {w : World} {rb k : Nat} {a : Addr} (h : Rd w rb k) (ha : rb < a.block) (u : Value) : Rd (w.setCell a u) rb k :=
  h.chgO ((Chg.refl a.block (a.block + 1) w).setCell (p := a) (Nat.le_refl _) (Nat.lt_succ_self _) u) ha
theorem Rd.set2 {w : World} {rb k : Nat} {a : Addr} {u : Value} (ha : rb < a.block) (h : Rd w rb k) : Rd (w.setCell a u) rb k := h.set ha u
/-- what was there before, but the reader, is as it was -/
def Rch (rb : Nat) (w w' : World) : Prop := Chg rb (rb + 1) w w'
theorem Rch.refl (rb : Nat) (w : World) : Rch rb w w := Chg.refl _ _ _
theorem Rch.step {rb : Nat} {w a b : World} (h : Rch rb w a) (k : Chg rb (rb + 1) a b) : Rch rb w b := Chg.trans h k
theorem Rch.alloc {rb : Nat} {w w' : World} (h : Rch rb w w') (o : Obj) : Rch rb w (w'.alloc o) := Chg.ext h ((Ext.refl _).alloc _)
theorem Rch.drew {rb : Nat} {w w' : World} (h : Rch rb w w') : Rch rb w w'.drew := Chg.ext h ((Ext.refl _).drew)
theorem Rch.drewN {rb : Nat} {w w' : World} (h : Rch rb w w') (n : Nat) : Rch rb w (w'.drewN n) := Chg.ext h ((Ext.refl _).drewN n)
theorem Rch.ext {rb : Nat} {w w' w'' : World} (h : Rch rb w w') (k : Ext w' w'') : Rch rb w w'' := Chg.ext h k
theorem Rch.set {rb : Nat} {w w' : World} (h : Rch rb w w') {a : Addr} (ha : w.heap.size ≤ a.block) (u : Value) : Rch rb w (w'.setCell a u) :=
  ⟨h.os, h.tape, h.output, by simpa using h.size, fun k hk hd => (Below.heap_setCell _ _ _ _ (by omega)).trans (h.block k hk hd)⟩
theorem Rch.size {rb : Nat} {w w' : World} (h : Rch rb w w') : w.heap.size ≤ w'.heap.size := Chg.size h
theorem Rch.rule {rb : Nat} {w w' : World} (h : Chg rb (rb + 1) w w') : ∀ b o, rb < b → b < w.heap.size → w'.cell? ⟨b, o, none⟩ = w.cell? ⟨b, o, none⟩ := fun b o h1 h2 => World.cell?_of_block (a := ⟨b, o, none⟩) (h.block b h2 (.inr h1))
theorem Rch.frule {rb : Nat} {w w' : World} (h : Chg rb (rb + 1) w w') : ∀ b o, rb < b → b < w.heap.size → w'.frozen? ⟨b, o, none⟩ = w.frozen? ⟨b, o, none⟩ := fun b o h1 h2 => World.frozen?_of_block (a := ⟨b, o, none⟩) (h.block b h2 (.inr h1))

/-- three numbers at a block -/
def RgAt (w : World) (g : Nat) : Prop := ∃ x y z : Int, w.cell? ⟨g, 0, none⟩ = some (.int .i64 x) ∧ w.cell? ⟨g, 1, none⟩ = some (.int .i64 y) ∧ w.cell? ⟨g, 2, none⟩ = some (.int .i64 z) ∧ w.frozen? ⟨g, 0, none⟩ = false ∧ w.frozen? ⟨g, 1, none⟩ = false ∧ w.frozen? ⟨g, 2, none⟩ = false
theorem RgAt.lt {w : World} {g : Nat} (h : RgAt w g) : g < w.heap.size := by obtain ⟨x, y, z, h, _⟩ := h; exact qB h

theorem BysIn.ext {w w' : World} {a : Option Addr} {n cap : Nat} (h : BysIn w a n cap) (hx : Ext w w') : BysIn w' a n cap := by
  obtain ⟨h1, h2, h3⟩ := h
  refine ⟨h1, h2, fun i hi => ?_⟩
  obtain ⟨b, off, x, ha, hc, hx2⟩ := h3 i hi
  exact ⟨b, off, x, ha, hx.cell hc, hx2⟩

end Go.Proofs.Ytfbbnbpobojboaa

/- A region that draws its order, some reads taken first under a condition on the world, which need not last behind the operations that wait for all those reads (a store to a cell that is read). No condition. -/
namespace Go.Proofs.Ytfbbnbpobojboaa
open Go
set_option linter.unusedVariables false
section
variable {P : Program} {ops : Array Oper} {Q : Exit → Act → World → Prop} {md : Region.Mode} {S : World → Prop} {tl : Nat → Bool}

/-- whatever order is picked; the condition holds behind each operation but those of tl -/
def wpTail (P : Program) (md : Region.Mode) (ops : Array Oper) (Q : Exit → Act → World → Prop) (S : World → Prop) (tl : Nat → Bool) : Nat → Array Bool → Act → World → Prop
  | 0, listed, a, w => Region.ready md ops listed = [] ∧ Q .normal a w
  | n + 1, listed, a, w =>
    (Region.ready md ops listed = [] → Q .normal a w) ∧
    ∀ i ∈ Region.ready md ops listed, wpOp P ops Q i (fun a' w' => (tl i = false → S w') ∧ wpTail P md ops Q S tl n (listed.setIfInBounds i true) a' w') a w

theorem wpTail.any : ∀ (n : Nat) (listed : Array Bool) (a : Act) (w : World), wpTail P md ops Q S tl n listed a w → wpAny P md ops Q n listed a w
  | 0, _, _, _, h => h
  | n + 1, _, _, _, h => ⟨h.1, fun i hi => wpOp_mono (fun a' w' h' => wpTail.any n _ a' w' h'.2) (h.2 i hi)⟩

/-- what waits for i -/
def waitsB (md : Region.Mode) (ops : Array Oper) (tl : Nat → Bool) (i : Nat) : Bool :=
  (List.range ops.size).all fun j => !tl j || (match ops[j]? with | some o => o.after.toList.any fun e => Region.binds md e && e.on == i | none => true)

theorem wpTail.first {i : Nat} {oi : Oper} {v : Value} (hi : ops[i]? = some oi) (hsel : ∀ (j : Nat) (o : Oper) cs b, ops[j]? = some o → o.op ≠ .select cs b)
    (hQ : ∀ c a w, Q (.panic c) (a.put oi.dst v) w → Q (.panic c) a w) (hti : tl i = false) (hwt : waitsB md ops tl i = true) :
    ∀ (n : Nat) (listed : Array Bool) (a : Act) (w : World),
      (∀ j oj, ops[j]? = some oj → j ≠ i → listed.getD j true = false → (∀ e ∈ oj.after, Region.binds md e = true → e.on ≠ i) → oi.apart ops oj = true) →
      i ∈ Region.ready md ops listed → YieldsIf P ops S oi v a → S w →
      wpTail P md ops Q S tl n (listed.setIfInBounds i true) (a.put oi.dst v) w → wpTail P md ops Q S tl (n + 1) listed a w := by
  intro n
  induction n with
  | zero =>
    intro listed a w _ hr hy hS H
    refine ⟨fun h => (by rw [h] at hr; cases hr), fun j hj => ?_⟩
    by_cases hji : j = i
    · subst hji; exact hy.wpOp hi hS ⟨fun _ => hS, H⟩
    · have h0 := ready_mono hj hji
      rw [H.1] at h0
      cases h0
  | succ n ih =>
    intro listed a w hfree hr hy hS H
    refine ⟨fun h => (by rw [h] at hr; cases hr), fun j hj => ?_⟩
    by_cases hji : j = i
    · subst hji; exact hy.wpOp hi hS ⟨fun _ => hS, H⟩
    · have h1 := H.2 j (ready_mono hj hji)
      obtain ⟨hjun, oj, hoj, hall⟩ := mem_ready.1 hj
      have hnot : ∀ e ∈ oj.after, Region.binds md e = true → e.on ≠ i := fun e he hb heq => by
        have h3 := hall e he hb
        have h4 := (mem_ready.1 hr).1
        rw [heq] at h3
        rcases Nat.lt_or_ge i listed.size with h' | h'
        · simp [h'] at h3 h4; rw [h4] at h3; cases h3
        · simp [Array.getElem?_eq_none h'] at h3
      have htj : tl j = false := by
        cases ht : tl j with
        | false => rfl
        | true =>
          have hlt := (Array.getElem?_eq_some_iff.1 hoj).1
          unfold waitsB at hwt
          rw [List.all_eq_true] at hwt
          have h5 := hwt j (List.mem_range.2 hlt)
          rw [ht, hoj] at h5
          simp only [Bool.not_true, Bool.false_or, List.any_eq_true, Bool.and_eq_true, beq_iff_eq] at h5
          obtain ⟨e, he, hb, hon⟩ := h5
          exact absurd hon (hnot e (by simpa using he) hb)
      have h2 := wpOp_putIf hoj (hfree j oj hoj hji hjun hnot) (fun cs b => hsel i oi cs b hi) (fun cs b => hsel j oj cs b hoj) hQ hy h1
      have hfree' : ∀ k ok, ops[k]? = some ok → k ≠ i → (listed.setIfInBounds j true).getD k true = false →
          (∀ e ∈ ok.after, Region.binds md e = true → e.on ≠ i) → oi.apart ops ok = true := fun k ok hk hki hun hno => by
        refine hfree k ok hk hki ?_ hno
        by_cases hjk : j = k
        · subst hjk; exact hjun
        · rw [getD_set_ne true hjk] at hun; exact hun
      refine wpOp_mono (fun a' w' h3 => ⟨h3.2.1, ih (listed.setIfInBounds j true) a' w' hfree' (ready_mono hr (Ne.symm hji)) h3.1 (h3.2.1 htj) ?_⟩) h2
      rw [Array.setIfInBounds_comm _ _ hji]
      exact h3.2.2

end
end Go.Proofs.Ytfbbnbpobojboaa

/- Words for walks: rows beside changed blocks, where elements lie, normal ranges. No condition. -/
namespace Go.Proofs.Ytfbbnbpobojboaa
open Go.RowKit
set_option linter.unusedVariables false
set_option maxRecDepth 100000

theorem Chg.frzO {lo hi : Nat} {w w' : World} (k : Chg lo hi w w') {b o : Nat} {f : Bool} (hd : b < lo ∨ hi ≤ b) (hb : b < w.heap.size) (hf : w.frozen? ⟨b, o, none⟩ = f) : w'.frozen? ⟨b, o, none⟩ = f :=
  (World.frozen?_of_block (a := ⟨b, o, none⟩) (k.block b hb hd)).trans hf
theorem OwnI.set {base g n c : Nat} {w : World} {xs : List Int} (h : OwnI w base (.slice (some ⟨g, 0, none⟩) n c) xs) (i : Nat) (x : Int) (hi : i < xs.length) : OwnI (w.setCell ⟨g, i, none⟩ (.int .i64 x)) base (.slice (some ⟨g, 0, none⟩) n c) (xs.set i x) := by
  have hn : n = xs.length := by
    rcases h.2 with ⟨h2, _⟩ | ⟨g', cap, cur, hv, _⟩
    · cases h2
    · cases hv; rfl
  subst hn
  unfold OwnI
  rw [List.length_set]
  exact own_set h i x hi
theorem OwnI.cell {base g n c : Nat} {w : World} {xs : List Int} (h : OwnI w base (.slice (some ⟨g, 0, none⟩) n c) xs) (i : Nat) (hi : i < xs.length) : w.cell? ⟨g, i, none⟩ = some (.int .i64 (xs.getD i 0)) ∧ w.frozen? ⟨g, i, none⟩ = false := by
  have hn : n = xs.length := by
    rcases h.2 with ⟨h2, _⟩ | ⟨g', cap, cur, hv, _⟩
    · cases h2
    · cases hv; rfl
  subst hn
  exact own_cell h i hi
theorem OwnI.len {base g n c : Nat} {w : World} {xs : List Int} (h : OwnI w base (.slice (some ⟨g, 0, none⟩) n c) xs) (hn : n ≤ 4194304 := by omega) : xs.length ≤ 4194304 := by
  rcases h.2 with ⟨h2, _⟩ | ⟨g', cap, cur, hv, _⟩
  · cases h2
  · cases hv; exact hn
theorem OwnI.any {base : Nat} {w : World} {v : Value} {xs : List Int} (h : OwnI w base v xs) : ∃ a n c, v = .slice a n c := by
  rcases h.2 with ⟨rfl, _⟩ | ⟨g', cap, cur, rfl, _⟩
  · exact ⟨_, _, _, rfl⟩
  · exact ⟨_, _, _, rfl⟩
theorem Ints.any {lo : Nat} {w : World} {v : Value} {xs : List Int} (h : Ints w lo v xs) : ∃ a n c, v = .slice a n c := by
  obtain ⟨a, c, rfl, _⟩ := h
  exact ⟨_, _, _, rfl⟩
/-- two rows of ints side by side -/
structure Two (B : Nat) (wr : World) (v1 v2 : Value) (xs ys : List Int) : Prop where
  o1 : OwnI wr B v1 xs
  o2 : OwnI wr B v2 ys
  sep : ∀ g, v1.ownBlock = some g → v2.ownBlock ≠ some g
  size : B ≤ wr.heap.size
theorem Two.nil {B : Nat} {w : World} (h : B ≤ w.heap.size) : Two B w (.slice none 0 0) (.slice none 0 0) [] [] := ⟨OwnI.nil _ _, OwnI.nil _ _, (fun g h => (by cases h)), h⟩
theorem Two.ext {B : Nat} {w w' : World} {v1 v2 : Value} {xs ys : List Int} (h : Two B w v1 v2 xs ys) (hx : Ext w w') : Two B w' v1 v2 xs ys := ⟨h.o1.ext hx, h.o2.ext hx, h.sep, Nat.le_trans h.size hx.size⟩
theorem Two.chg {B lo hi : Nat} {w w' : World} {v1 v2 : Value} {xs ys : List Int} (h : Two B w v1 v2 xs ys) (k : Chg lo hi w w') (hb : hi ≤ B) : Two B w' v1 v2 xs ys := ⟨h.o1.chg k hb, h.o2.chg k hb, h.sep, Nat.le_trans h.size k.size⟩
end Go.Proofs.Ytfbbnbpobojboaa

/- Walks: cutDim of the reference. -/
namespace Go.Proofs.Ytfbbnbpobojboaa
open Go.RowKit
set_option linter.unusedVariables false
set_option maxRecDepth 100000


theorem PView.own {w w' : World} {base : Int} {shape strides : List Int} {v1 v2 : Value} (o1 : OwnZ w' w.heap.size v1 shape) (o2 : OwnZ w' w.heap.size v2 strides) (hd : shape ≠ [] → strides ≠ [] → v1.ownBlock ≠ v2.ownBlock) (l1 : shape.length ≤ 4194304) (l2 : strides.length ≤ 4194304) (hx : Ext w w') :
    PView w base shape strides (.returned (.agg #[.int .i64 base, v1, v2])) w' := ⟨v1, v2, rfl, o1.ints l1, o2.ints l2, o1, o2, hd, hx⟩

end Go.Proofs.Ytfbbnbpobojboaa

/- Walks: SliceDim and FlipDim of the reference. -/
namespace Go.Proofs.Ytfbbnbpobojboaa
open Go.RowKit
set_option linter.unusedVariables false
set_option maxRecDepth 100000


/-- a view with a bool -/
abbrev VBool := Int × List Int × List Int × Bool
def PVB (w : World) (x : VBool) : Ending → World → Prop := PViewB w x.1 x.2.1 x.2.2.1 x.2.2.2
def noV : VBool := (0, [], [], false)
theorem PVB.no {w w' : World} {x : VBool} (h : x = noV) (hx : Ext w w') : PVB w x (.returned (.tuple #[.agg #[.int .i64 0, .slice none 0 0, .slice none 0 0], .bool false])) w' := by
  subst h; exact PViewB.no hx
end Go.Proofs.Ytfbbnbpobojboaa

/- Walks: permuted of the reference. -/
namespace Go.Proofs.Ytfbbnbpobojboaa
open Go.RowKit
set_option linter.unusedVariables false
set_option maxRecDepth 100000

end Go.Proofs.Ytfbbnbpobojboaa

/- Walks: insert of the reference. -/
namespace Go.Proofs.Ytfbbnbpobojboaa
open Go.RowKit
set_option linter.unusedVariables false
set_option maxRecDepth 100000

end Go.Proofs.Ytfbbnbpobojboaa

/- Walks: made, PermuteDims, FlipDim, AddDim and WindowsOf of the reference. -/
namespace Go.Proofs.Ytfbbnbpobojboaa
open Go.RowKit
set_option linter.unusedVariables false
set_option maxRecDepth 100000


theorem PVB.any {w w' : World} {x : VBool} {b : Int} {s t : List Int} {ok : Bool} {v1 v2 : Value} (h : x = (b, s, t, ok)) (o1 : OwnZ w' w.heap.size v1 s) (o2 : OwnZ w' w.heap.size v2 t) (hd : s ≠ [] → t ≠ [] → v1.ownBlock ≠ v2.ownBlock) (l1 : s.length ≤ 4194304) (l2 : t.length ≤ 4194304) (hx : Ext w w') :
    PVB w x (.returned (.tuple #[.agg #[.int .i64 b, v1, v2], .bool ok])) w' := by
  subst h; exact ⟨v1, v2, rfl, o1.ints l1, o2.ints l2, o1, o2, hd, hx⟩
/-- the view of a VBool: as many strides as extents, no more than four -/
def VBool.fit (x : VBool) : Prop := x.2.2.1.length = x.2.1.length ∧ x.2.1.length ≤ 4
end Go.Proofs.Ytfbbnbpobojboaa

/- Words for walks: an owned row with one element more. No condition. -/
namespace Go.Proofs.Ytfbbnbpobojboaa
open Go.RowKit
set_option linter.unusedVariables false
set_option maxRecDepth 100000

end Go.Proofs.Ytfbbnbpobojboaa

/- Walks: WindowsOf of the reference. -/
namespace Go.Proofs.Ytfbbnbpobojboaa
open Go.RowKit
set_option linter.unusedVariables false
set_option maxRecDepth 100000

end Go.Proofs.Ytfbbnbpobojboaa

/- Walks: drawn ranges and slices. -/
namespace Go.Proofs.Ytfbbnbpobojboaa
open Go.RowKit
set_option linter.unusedVariables false
set_option maxRecDepth 100000

end Go.Proofs.Ytfbbnbpobojboaa

/- Walks: drawn slices. -/
namespace Go.Proofs.Ytfbbnbpobojboaa
open Go.RowKit
set_option linter.unusedVariables false
set_option maxRecDepth 100000

/-- a slice at a block -/
def SlAt (w : World) (g : Nat) : Prop := ∃ (F T B : Int) (hf ht : Bool), w.cell? ⟨g, 0, none⟩ = some (.int .i64 F) ∧ w.cell? ⟨g, 1, none⟩ = some (.int .i64 T) ∧ w.cell? ⟨g, 2, none⟩ = some (.int .i64 B) ∧ w.cell? ⟨g, 3, none⟩ = some (.bool hf) ∧ w.cell? ⟨g, 4, none⟩ = some (.bool ht) ∧
  w.frozen? ⟨g, 0, none⟩ = false ∧ w.frozen? ⟨g, 1, none⟩ = false ∧ w.frozen? ⟨g, 2, none⟩ = false ∧ w.frozen? ⟨g, 3, none⟩ = false ∧ w.frozen? ⟨g, 4, none⟩ = false
theorem SlAt.lt {w : World} {g : Nat} (h : SlAt w g) : g < w.heap.size := by obtain ⟨F, T, B, hf, ht, h, _⟩ := h; exact qB h

end Go.Proofs.Ytfbbnbpobojboaa

/- Walks: drawn shapes. -/
namespace Go.Proofs.Ytfbbnbpobojboaa
open Go.RowKit
set_option linter.unusedVariables false
set_option maxRecDepth 100000

theorem Below.chg {B : Nat} {a b : World} (h : Below B a b) : Chg B a.heap.size a b :=
  ⟨h.os, h.tape, h.output, h.size, fun k hk hd => by
    rcases hd with hd | hd
    · exact h.block k hd
    · omega⟩
theorem Rd.below {B : Nat} {a b : World} {rb k : Nat} (h : Rd a rb k) (hb : Below B a b) (hl : rb < B) : Rd b rb k := h.chgO (Below.chg hb) hl
theorem Rch.below {rb : Nat} {w a b : World} (h : Chg rb (rb + 1) w a) (hb : Below w.heap.size a b) : Chg rb (rb + 1) w b :=
  ⟨hb.os.trans h.os, hb.tape.trans h.tape, hb.output.trans h.output, Nat.le_trans h.size hb.size, fun k hk hd => (hb.block k hk).trans (h.block k hk hd)⟩

end Go.Proofs.Ytfbbnbpobojboaa

/- Words for drawn views: a view in a block, with rows of its own. No condition. -/
namespace Go.Proofs.Ytfbbnbpobojboaa
open Go.RowKit
set_option linter.unusedVariables false
set_option maxRecDepth 100000

/-- a view lies in block g; its rows are the call's own, from block B on, not g -/
structure VAt (B g : Nat) (w : World) (b : Int) (u v : Value) (s t : List Int) : Prop where
  c0 : w.cell? ⟨g, 0, none⟩ = some (.int .i64 b)
  c1 : w.cell? ⟨g, 1, none⟩ = some u
  c2 : w.cell? ⟨g, 2, none⟩ = some v
  f0 : w.frozen? ⟨g, 0, none⟩ = false
  f1 : w.frozen? ⟨g, 1, none⟩ = false
  f2 : w.frozen? ⟨g, 2, none⟩ = false
  o1 : OwnZ w B u s
  o2 : OwnZ w B v t
  sep : s ≠ [] → t ≠ [] → u.ownBlock ≠ v.ownBlock
  n1 : s ≠ [] → u.ownBlock ≠ some g
  n2 : t ≠ [] → v.ownBlock ≠ some g
  fit : t.length = s.length
  le : s.length ≤ 4
section
variable {B g rb lo hi : Nat} {w w' : World} {b : Int} {u v : Value} {s t : List Int}
theorem VAt.lt (h : VAt B g w b u v s t) : g < w.heap.size := qB h.c0
theorem VAt.ext (h : VAt B g w b u v s t) (x : Ext w w') : VAt B g w' b u v s t :=
  ⟨x.cell h.c0, x.cell h.c1, x.cell h.c2, x.frz h.lt h.f0, x.frz h.lt h.f1, x.frz h.lt h.f2, h.o1.ext x, h.o2.ext x, h.sep, h.n1, h.n2, h.fit, h.le⟩
/-- another block has turned, behind the rows and the view -/
theorem VAt.chgB (h : VAt B g w b u v s t) (k : Chg lo hi w w') (hg : g < lo) (h1 : s ≠ [] → ∀ q, u.ownBlock = some q → q < lo) (h2 : t ≠ [] → ∀ q, v.ownBlock = some q → q < lo) : VAt B g w' b u v s t :=
  ⟨k.cell (by omega) h.c0, k.cell (by omega) h.c1, k.cell (by omega) h.c2, k.frzO (by omega) h.lt h.f0, k.frzO (by omega) h.lt h.f1, k.frzO (by omega) h.lt h.f2, h.o1.chgB k h1, h.o2.chgB k h2, h.sep, h.n1, h.n2, h.fit, h.le⟩
/-- another block has turned, ahead of the rows, not the view's -/
theorem VAt.chg (h : VAt B g w b u v s t) (k : Chg lo hi w w') (hg : g < lo ∨ hi ≤ g) (hb : hi ≤ B) : VAt B g w' b u v s t :=
  ⟨k.cell hg h.c0, k.cell hg h.c1, k.cell hg h.c2, k.frzO hg h.lt h.f0, k.frzO hg h.lt h.f1, k.frzO hg h.lt h.f2, h.o1.chg k hb, h.o2.chg k hb, h.sep, h.n1, h.n2, h.fit, h.le⟩
theorem VAt.lower (h : VAt B g w b u v s t) {B' : Nat} (hb : B' ≤ B) : VAt B' g w b u v s t := ⟨h.c0, h.c1, h.c2, h.f0, h.f1, h.f2, h.o1.lower hb, h.o2.lower hb, h.sep, h.n1, h.n2, h.fit, h.le⟩
theorem VAt.new (b : Int) (o1 : OwnZ w B u s) (o2 : OwnZ w B v t) (hs : s ≠ [] → t ≠ [] → u.ownBlock ≠ v.ownBlock) (hf : t.length = s.length) (hl : s.length ≤ 4) : VAt B w.heap.size (w.alloc (.cells #[.int .i64 b, u, v] 36)) b u v s t :=
  ⟨by simp, by simp, by simp, by simp, by simp, by simp, o1.ext ((Ext.refl w).alloc _), o2.ext ((Ext.refl w).alloc _), hs, (fun h e => by have := o1.bound h _ e; omega), (fun h e => by have := o2.bound h _ e; omega), hf, hl⟩
end
/-- a view is stored into a block that lies ahead of its rows -/
theorem VAt.put {B g : Nat} {w : World} {b b0 : Int} {u v u0 v0 : Value} {s t : List Int} (c0 : w.cell? ⟨g, 0, none⟩ = some (.int .i64 b0)) (c1 : w.cell? ⟨g, 1, none⟩ = some u0) (c2 : w.cell? ⟨g, 2, none⟩ = some v0)
    (f0 : w.frozen? ⟨g, 0, none⟩ = false) (f1 : w.frozen? ⟨g, 1, none⟩ = false) (f2 : w.frozen? ⟨g, 2, none⟩ = false) (o1 : OwnZ w B u s) (o2 : OwnZ w B v t) (hs : s ≠ [] → t ≠ [] → u.ownBlock ≠ v.ownBlock) (hf : t.length = s.length) (hl : s.length ≤ 4) (hg : g < B) :
    VAt B g (((w.setCell ⟨g, 0, none⟩ (.int .i64 b)).setCell ⟨g, 1, none⟩ u).setCell ⟨g, 2, none⟩ v) b u v s t := by
  have k := Chg.three (lo := g) w (.int .i64 b) u v
  have m1 : s ≠ [] → u.ownBlock ≠ some g := fun h e => by obtain ⟨q, e2, h2, _⟩ := o1.lt h; rw [e2] at e; cases e; omega
  have m2 : t ≠ [] → v.ownBlock ≠ some g := fun h e => by obtain ⟨q, e2, h2, _⟩ := o2.lt h; rw [e2] at e; cases e; omega
  exact ⟨by go_simp, by go_simp, by go_simp, by go_simp, by go_simp, by go_simp, o1.chg k (by omega), o2.chg k (by omega), hs, m1, m2, hf, hl⟩

/-- a view that is told to be one has a dimension -/
def VBool.live (x : VBool) : Prop := x.2.2.2 = true → x.2.1 ≠ []
/-- a call hands back a view with a bool: as many strides as extents, no more than four -/
def PFit (w : World) (e : Ending) (w' : World) : Prop :=
  ∃ (b : Int) (s t : List Int) (ok : Bool) (p1 p2 : Option Addr) (n1 r1 n2 r2 : Nat), e = .returned (.tuple #[.agg #[.int .i64 b, .slice p1 n1 r1, .slice p2 n2 r2], .bool ok]) ∧ OwnZ w' w.heap.size (.slice p1 n1 r1) s ∧ OwnZ w' w.heap.size (.slice p2 n2 r2) t ∧
    (s ≠ [] → t ≠ [] → (Value.slice p1 n1 r1).ownBlock ≠ (Value.slice p2 n2 r2).ownBlock) ∧ t.length = s.length ∧ (s.length ≤ 4 ∧ (ok = true → s ≠ [])) ∧ Ext w w'
theorem PFit.of {w w' : World} {e : Ending} {x : VBool} (h : PVB w x e w') (hf : x.fit) (hv : x.live) : PFit w e w' := by
  obtain ⟨b, s, t, ok⟩ := x
  obtain ⟨sh, st, rfl, -, -, o1, o2, od, xx⟩ := h
  obtain ⟨p1, n1, r1, rfl⟩ := o1.form
  obtain ⟨p2, n2, r2, rfl⟩ := o2.form
  exact ⟨b, s, t, ok, p1, p2, n1, r1, n2, r2, rfl, o1, o2, od, hf.1, ⟨hf.2, hv⟩, xx⟩
/-- the state behind the choice of the next view -/
def NextAt (rb q gn gv : Nat) (w : World) (b : Int) (u v : Value) (s t : List Int) (ok : Value) (wx : World) : Prop :=
  ∃ (o : Bool) (b' : Int) (s' t' : List Int) (p1 p2 : Option Addr) (m1 r1 m2 r2 : Nat), ok = .bool o ∧ (o = true → s' ≠ []) ∧ VAt (gn + 1) gn wx b' (.slice p1 m1 r1) (.slice p2 m2 r2) s' t' ∧ VAt (w.heap.size + 1) gv wx b u v s t ∧
    VAt (w.heap.size + 1) w.heap.size wx 0 (.slice none 0 0) (.slice none 0 0) [] [] ∧ Rd wx rb (q + 20) ∧ Rch rb w wx
theorem NextAt.put {rb q gn gv B0 B m1 r1 m2 r2 : Nat} {w w12 : World} {b bn b' : Int} {u v un vn : Value} {p1 p2 : Option Addr} {s t sn tn s' t' : List Int} (o : Bool) (VN : VAt B0 gn w12 bn un vn sn tn) (V : VAt (w.heap.size + 1) gv w12 b u v s t)
    (Q : VAt (w.heap.size + 1) w.heap.size w12 0 (.slice none 0 0) (.slice none 0 0) [] []) (hr : Rd w12 rb (q + 20)) (X : Rch rb w w12) (h1 : rb < w.heap.size) (h2 : w.heap.size < gv) (h3 : gv < gn)
    (hb1 : s ≠ [] → ∀ g, u.ownBlock = some g → g < gn) (hb2 : t ≠ [] → ∀ g, v.ownBlock = some g → g < gn) (o1 : OwnZ w12 B (.slice p1 m1 r1) s') (o2 : OwnZ w12 B (.slice p2 m2 r2) t') (hs : s' ≠ [] → t' ≠ [] → (Value.slice p1 m1 r1).ownBlock ≠ (Value.slice p2 m2 r2).ownBlock) (hf : t'.length = s'.length) (hl : s'.length ≤ 4 ∧ (o = true → s' ≠ [])) (hB : gn < B) :
    NextAt rb q gn gv w b u v s t (.bool o) (((w12.setCell ⟨gn, 0, none⟩ (.int .i64 b')).setCell ⟨gn, 1, none⟩ (.slice p1 m1 r1)).setCell ⟨gn, 2, none⟩ (.slice p2 m2 r2)) :=
  ⟨o, b', s', t', p1, p2, m1, r1, m2, r2, rfl, hl.2, VAt.put VN.c0 VN.c1 VN.c2 VN.f0 VN.f1 VN.f2 (o1.lower hB) (o2.lower hB) hs hf hl.1 (Nat.lt_succ_self _), V.chgB (Chg.three w12 _ _ _) h3 hb1 hb2,
    Q.chgB (Chg.three w12 _ _ _) (by omega) (fun h => absurd rfl h) (fun h => absurd rfl h),
    Rd.set2 (show rb < gn by omega) (Rd.set2 (show rb < gn by omega) (Rd.set2 (show rb < gn by omega) hr)),
    ((X.set (show w.heap.size ≤ gn by omega) _).set (show w.heap.size ≤ gn by omega) _).set (show w.heap.size ≤ gn by omega) _⟩

end Go.Proofs.Ytfbbnbpobojboaa

/- Walks: ValidView, FitsIn, BoundsOf. -/
namespace Go.Proofs.Ytfbbnbpobojboaa
open Go.RowKit
set_option linter.unusedVariables false
set_option maxRecDepth 100000


theorem areCells_c (x : Int) (w : World) : Calls Try.prog 88 #[.int .i64 x] w fun e w' => e = .returned (.bool (inB 0 60 x)) ∧ w = w' := by
  by_cases h : 0 ≤ x
  · go_enter Try.func88, Try.ntmps88
    go_wp2_with fail
    go_ret
    exact ⟨by simp [inB, h], rfl⟩
  · have h' : x < 0 := by omega
    go_enter Try.func88, Try.ntmps88
    go_wp2_with fail
    go_ret
    exact ⟨by simp [inB]; intro; omega, rfl⟩
end Go.Proofs.Ytfbbnbpobojboaa

/- Words for memory: lists of records (View). No condition. -/
namespace Go.Proofs.Ytfbbnbpobojboaa
open Go.RowKit
set_option linter.unusedVariables false
set_option maxRecDepth 100000

/-- a record -/
structure Vw where
  b : Int
  s : List Int
  t : List Int
def noVw : Vw := ⟨0, [], []⟩
def vwAt (rs : List Vw) (i : Nat) : Vw := rs.getD i noVw
theorem vwAt_get {rs : List Vw} {i : Nat} (h : i < rs.length) : vwAt rs i = rs[i] := by unfold vwAt; simp [h]
theorem vwAt_set (rs : List Vw) (i : Nat) (e : Vw) (j : Nat) (hi : i < rs.length) : vwAt (rs.set i e) j = if j = i then e else vwAt rs j := by
  unfold vwAt
  rw [List.getD_eq_getElem?_getD, List.getElem?_set, List.getD_eq_getElem?_getD]
  by_cases h : i = j
  · subst h; simp [hi]
  · rw [if_neg h, if_neg (by omega)]
theorem take_vwAt {rs : List Vw} {k : Nat} (h : k < rs.length) : rs.take (k+1) = rs.take k ++ [vwAt rs k] := by rw [List.take_succ_eq_append_getElem h, vwAt_get h]
/-- the slice value v reads as the records rs; its cells, and their rows', lie in blocks from lo on -/
def Vws (w : World) (lo : Nat) (v : Value) (rs : List Vw) : Prop :=
  ∃ a cap, v = .slice a rs.length cap ∧ rs.length ≤ cap ∧ cap ≤ maxLen ∧ (rs.length ≤ 1048576 ∧ (a = none → cap = 0)) ∧
    ∀ i, i < rs.length → ∃ bl off u1 c1 u2 c2, a = some ⟨bl, off, none⟩ ∧ lo ≤ bl ∧ w.cell? ⟨bl, off + i * 3, none⟩ = some (.int .i64 (vwAt rs i).b) ∧ w.cell? ⟨bl, off + i * 3 + 1, none⟩ = some (.slice u1 (vwAt rs i).s.length c1) ∧ w.cell? ⟨bl, off + i * 3 + 2, none⟩ = some (.slice u2 (vwAt rs i).t.length c2) ∧ Ints w lo (.slice u1 (vwAt rs i).s.length c1) (vwAt rs i).s ∧ Ints w lo (.slice u2 (vwAt rs i).t.length c2) (vwAt rs i).t
section
variable {w w' : World} {lo lo' : Nat} {v : Value} {rs : List Vw}
theorem Vws.ext (h : Vws w lo v rs) (hx : Ext w w') : Vws w' lo v rs := by
  obtain ⟨a, cap, hv, h1, h2, h3, h4⟩ := h
  refine ⟨a, cap, hv, h1, h2, h3, fun i hi => ?_⟩
  obtain ⟨bl, off, u1, c1, u2, c2, ha, hl, k0, k1, k2, j1, j2⟩ := h4 i hi
  exact ⟨bl, off, u1, c1, u2, c2, ha, hl, hx.cell k0, hx.cell k1, hx.cell k2, j1.ext hx, j2.ext hx⟩
theorem Vws.lower (h : Vws w lo v rs) (hl : lo' ≤ lo) : Vws w lo' v rs := by
  obtain ⟨a, cap, hv, h1, h2, h3, h4⟩ := h
  refine ⟨a, cap, hv, h1, h2, h3, fun i hi => ?_⟩
  obtain ⟨bl, off, u1, c1, u2, c2, ha, hb, k0, k1, k2, j1, j2⟩ := h4 i hi
  exact ⟨bl, off, u1, c1, u2, c2, ha, by omega, k0, k1, k2, j1.lower hl, j2.lower hl⟩
theorem Vws.chg {l h' : Nat} (h : Vws w lo v rs) (k : Chg l h' w w') (hb : h' ≤ lo) : Vws w' lo v rs := by
  obtain ⟨a, cap, hv, h1, h2, h3, h4⟩ := h
  refine ⟨a, cap, hv, h1, h2, h3, fun i hi => ?_⟩
  obtain ⟨bl, off, u1, c1, u2, c2, ha, hb', k0, k1, k2, j1, j2⟩ := h4 i hi
  exact ⟨bl, off, u1, c1, u2, c2, ha, hb', k.cell (.inr (by omega)) k0, k.cell (.inr (by omega)) k1, k.cell (.inr (by omega)) k2, j1.chg k hb, j2.chg k hb⟩
theorem Vws.form (h : Vws w lo v rs) : ∃ a c, v = .slice a rs.length c := by obtain ⟨a, cap, rfl, _⟩ := h; exact ⟨_, _, rfl⟩
theorem Vws.len (h : Vws w lo v rs) : rs.length ≤ 1048576 := by obtain ⟨_, _, _, _, _, ⟨h, _⟩, _⟩ := h; exact h
theorem Vws.nil (w : World) (lo : Nat) : Vws w lo (.slice none 0 0) [] := ⟨none, 0, rfl, by simp, by simp, ⟨by simp, fun _ => rfl⟩, fun i hi => absurd hi (by simp)⟩
/-- the cells of one record -/
theorem Vws.at {a : Option Addr} {n c : Nat} (h : Vws w lo (.slice a n c) rs) (i : Nat) (hi : i < rs.length) : ∃ bl off u1 c1 u2 c2, a = some ⟨bl, off, none⟩ ∧ w.cell? ⟨bl, off + i * 3, none⟩ = some (.int .i64 (vwAt rs i).b) ∧ w.cell? ⟨bl, off + i * 3 + 1, none⟩ = some (.slice u1 (vwAt rs i).s.length c1) ∧ w.cell? ⟨bl, off + i * 3 + 2, none⟩ = some (.slice u2 (vwAt rs i).t.length c2) ∧ Ints w lo (.slice u1 (vwAt rs i).s.length c1) (vwAt rs i).s ∧ Ints w lo (.slice u2 (vwAt rs i).t.length c2) (vwAt rs i).t := by
  obtain ⟨a', cap, hv, h1, h2, h3, h4⟩ := h
  cases hv
  obtain ⟨bl, off, u1, c1, u2, c2, ha, hb, k⟩ := h4 i hi
  exact ⟨bl, off, u1, c1, u2, c2, ha, k⟩
end
def erowCV (e : Vw) (u1 : Value) (u2 : Value) : List Value := [.int .i64 e.b, u1, u2]
def rowCV (rs : List Vw) (R : Nat → Value) : List (List Value) := (List.range rs.length).map fun i => erowCV (vwAt rs i) (R (2 * i)) (R (2 * i + 1))
theorem rowCV_len (rs : List Vw) (R : Nat → Value) : (rowCV rs R).length = rs.length := by simp [rowCV]
theorem rowCV_get (rs : List Vw) (R : Nat → Value) (i : Nat) (h : i < (rowCV rs R).length) : (rowCV rs R)[i] = erowCV (vwAt rs i) (R (2 * i)) (R (2 * i + 1)) := by simp [rowCV]
theorem infoV : (Try.prog.info? 36).map (fun i => (i.zero, i.size, i.bytes)) = some (some (.agg #[.int .i64 0, .slice none 0 0, .slice none 0 0]), 3, 56) := by kernel_rfl
/-- a row of records can be read -/
theorem Vws.ofRow {w : World} {lo lo2 : Nat} {rs : List Vw} {R : Nat → Value} {g r : Nat} (h : OwnC w lo 36 3 (.slice (some ⟨g, 0, none⟩) rs.length r) (rowCV rs R)) (hn : ∀ i, i < rs.length → Ints w lo2 (R (2 * i)) (vwAt rs i).s ∧ Ints w lo2 (R (2 * i + 1)) (vwAt rs i).t) (hl : rs.length ≤ 1048576) (lo3 : Nat) (h3 : lo3 ≤ lo) (h4 : lo3 ≤ lo2) : Vws w lo3 (.slice (some ⟨g, 0, none⟩) rs.length r) rs := by
  have e1 : (.slice (some ⟨g, 0, none⟩) rs.length r : Value) = .slice (some ⟨g, 0, none⟩) (rowCV rs R).length r := by rw [rowCV_len]
  have hb := (h.blkM g rfl).1
  by_cases he : rs = []
  · subst he
    obtain ⟨hr, -⟩ := h
    rcases hr.2 with ⟨h0, _⟩ | ⟨g', cap, cur, hv, hb, hh, h1, h2, _⟩
    · cases h0
    · cases hv
      exact ⟨_, r, rfl, by simp, h2, ⟨by simp, fun h => by cases h⟩, fun i hi => absurd hi (by simp)⟩
  · have hb2 := h.lt (by intro h0; have := rowCV_len rs R; rw [h0] at this; exact he (List.eq_nil_of_length_eq_zero this.symm))
    obtain ⟨g', c', hv, -, -, -, hc, hm⟩ := hb2
    rw [rowCV_len] at hv hc
    cases hv
    refine ⟨_, r, rfl, hc, hm, ⟨hl, fun h => by cases h⟩, fun i hi => ?_⟩
    rw [e1] at h
    have k := fun j (hj : j < 3) => (h.cell i j (by rw [rowCV_len]; exact hi) hj).1
    rw [rowCV_get] at k
    obtain ⟨j1, j2⟩ := hn i hi
    obtain ⟨u1, c1, e1⟩ := j1.form
    rw [e1] at j1
    obtain ⟨u2, c2, e2⟩ := j2.form
    rw [e2] at j2
    refine ⟨g, 0, u1, c1, u2, c2, rfl, by omega, ?_, ?_, ?_, j1.lower h4, j2.lower h4⟩
    · have := k 0 (by omega); rw [Nat.zero_add]; exact this
    · have := k 1 (by omega); rw [Nat.zero_add]; rw [← e1]; exact this
    · have := k 2 (by omega); rw [Nat.zero_add]; rw [← e2]; exact this
theorem rowCV_all (rs : List Vw) (R : Nat → Value) : ∀ c ∈ rowCV rs R, c.length = 3 := fun c hc => by
  unfold rowCV at hc
  obtain ⟨i, -, rfl⟩ := List.mem_map.1 hc
  rfl

end Go.Proofs.Ytfbbnbpobojboaa

/- Walks of the laws' own helpers: lists of records (View). -/
namespace Go.Proofs.Ytfbbnbpobojboaa
open Go.RowKit
set_option linter.unusedVariables false
set_option maxRecDepth 100000

/-- a slice of records that came in -/
def RawV (w : World) (v : Value) (rs : List Vw) : Prop :=
 ∃ a cap, v = .slice a rs.length cap ∧ (a = none → cap = 0) ∧
  ∀ i, i < rs.length → ∃ bl off u1 c1 u2 c2, a = some ⟨bl, off, none⟩ ∧ w.cell? ⟨bl, off + i * 3, none⟩ = some (.int .i64 (vwAt rs i).b) ∧ w.cell? ⟨bl, off + i * 3 + 1, none⟩ = some (.slice u1 (vwAt rs i).s.length c1) ∧ w.cell? ⟨bl, off + i * 3 + 2, none⟩ = some (.slice u2 (vwAt rs i).t.length c2) ∧ Raw w (.slice u1 (vwAt rs i).s.length c1) (vwAt rs i).s ∧ Raw w (.slice u2 (vwAt rs i).t.length c2) (vwAt rs i).t ∧ (vwAt rs i).s.length ≤ maxLen ∧ (vwAt rs i).t.length ≤ maxLen
theorem RawV.ext {w w' : World} {v : Value} {rs : List Vw} (h : RawV w v rs) (hx : Ext w w') : RawV w' v rs := by
 obtain ⟨a, cap, hv, h3, h4⟩ := h
 refine ⟨a, cap, hv, h3, fun i hi => ?_⟩
 obtain ⟨bl, off, u1, c1, u2, c2, ha, k0, k1, k2, j1, j2, m⟩ := h4 i hi
 exact ⟨bl, off, u1, c1, u2, c2, ha, hx.cell k0, hx.cell k1, hx.cell k2, j1.ext hx, j2.ext hx, m⟩
theorem RawV.form {w : World} {v : Value} {rs : List Vw} (h : RawV w v rs) : ∃ a cap, v = .slice a rs.length cap := by
 obtain ⟨a, cap, hv, _⟩ := h; exact ⟨a, cap, hv⟩
/-- the numbers in the rows of the first k records -/
def sizeV (rs : List Vw) : Nat → Nat
 | 0 => 0
 | k + 1 => sizeV rs k + ((vwAt rs k).s.length + (vwAt rs k).t.length)
theorem sizeV_le (rs : List Vw) (i k : Nat) (h : i < k) : (vwAt rs i).s.length + (vwAt rs i).t.length ≤ sizeV rs k := by
 induction k with
 | zero => omega
 | succ k ih =>
  unfold sizeV
  by_cases hk : i = k
  ·
   subst hk; omega
  ·
   have := ih (by omega); omega
theorem sz1V_c (b : Int) (a1 : Option Addr) (n1 c1 : Nat) (a2 : Option Addr) (n2 c2 : Nat) (left : Int) (w : World) (h0 : 0 ≤ left) (h1 : left ≤ 1048576) (m1 : n1 ≤ maxLen) (m2 : n2 ≤ maxLen) :
  Calls Try.prog 14 #[.agg #[.int .i64 b, .slice a1 n1 c1, .slice a2 n2 c2], .int .i64 left] w (PLeftM (n1 + n2) left w) := by
 refine (szView_c b a1 a2 n1 c1 n2 c2 left _ h0 h1 m1 m2).mono ?_
 rintro e w1 ⟨rfl, x1⟩
 by_cases hq : szV left n1 n2 < 0
 ·
  refine ⟨_, rfl, ?_, by omega, fun h => by omega, x1⟩
  unfold szV at hq ⊢
  have g1 := szN_ge left n1
  have g2 := szN_ge (szN left n1) n2
  split <;> omega
 ·
  obtain ⟨y1, y2, y3⟩ := szV_ge h0 hq
  exact ⟨_, rfl, by omega, by omega, fun h => by omega, x1⟩
set_option maxHeartbeats 1600000 in
theorem szViewS_c (rs : List Vw) (v : Value) (left : Int) (w : World) (hv : RawV w v rs) (h0 : 0 ≤ left) (h1 : left ≤ 1048576) (hm : rs.length ≤ maxLen) :
  Calls Try.prog 52 #[v, .int .i64 left] w (PLeftM (rs.length + sizeV rs rs.length) left w) := by
 obtain ⟨a, cap, rfl, _, hc⟩ := hv
 unfold maxLen at hm
 go_enter Try.func52, Try.ntmps52
 by_cases hq : left - rs.length < 0
 ·
  go_wp2_with fail
  go_ret
  exact ⟨-1, rfl, by omega, by omega, fun h => by omega, qXt⟩
 ·
  go_wp2_with fail
  go_loopw [1, 5] (fun l i wr => ∃ (k : Nat) (L : Int), k ≤ rs.length ∧ i = .int .i64 k ∧ l = .int .i64 L ∧ 0 ≤ L ∧ ((rs.length + sizeV rs k : Nat) : Int) + L = left ∧ Ext w wr) (fun _ i _ => rs.length - (intOf i).toNat)
  case atStart => exact ⟨0, left - rs.length, Nat.zero_le _, rfl, rfl, by omega, by unfold sizeV; omega, qXt⟩
  case round =>
   obtain ⟨k, L, hk, rfl, rfl, hL, hs, Xr⟩ := hrel
   by_cases hlt : k < rs.length
   ·
    have hkI : (k : Int) < rs.length := by omega
    obtain ⟨bl, off, u1, c1, u2, c2, rfl, k0, k1, k2, j1, j2, m1, m2⟩ := hc k hlt
    replace k0 := Xr.cell k0
    replace k1 := Xr.cell k1
    replace k2 := Xr.cell k2
    clear hc j1 j2
    have hse : sizeV rs (k+1) = sizeV rs k + ((vwAt rs k).s.length + (vwAt rs k).t.length) := rfl
    go_wp2_with fail
    refine (sz1V_c _ _ _ _ _ _ _ L _ hL (by omega) m1 m2).mono ?_
    rintro e w1 ⟨L1, rfl, q1, q2, q3, x1⟩
    have X1 : Ext w w1 := Xr.trans (Ext.trans qXt x1)
    by_cases hn : L1 < 0
    ·
     go_wp2_with fail
     go_ret
     exact ⟨-1, rfl, by omega, by omega, fun h => by omega, X1⟩
    ·
     have q4 := q3 (by omega)
     go_wp2_with fail
     go_roundw
     case rel => exact ⟨k+1, L1, by omega, by go_num, rfl, by omega, by rw [hse]; omega, X1⟩
     case measure => simp [intOf]; omega
   ·
    obtain rfl : k = rs.length := by omega
    go_wp2_with fail
    go_ret
    exact ⟨L, rfl, by omega, by omega, fun _ => hs, Xr⟩
theorem OwnC.putV {w : World} {base E g n c : Nat} {L : List (List Value)} (h : OwnC w base E 3 (.slice (some ⟨g, 0, none⟩) n c) L) (hn : n = L.length) (i : Nat) (hi : i < L.length) (x0 x1 x2 : Value) :
  OwnC (((w.setCell ⟨g, i * 3, none⟩ x0).setCell ⟨g, i * 3 + 1, none⟩ x1).setCell ⟨g, i * 3 + 2, none⟩ x2) base E 3 (.slice (some ⟨g, 0, none⟩) n c) (L.set i [x0, x1, x2]) := by
 have hl : L[i].length = 3 := h.2 _ (List.getElem_mem hi)
 obtain ⟨y0, y1, y2, hy⟩ : ∃ y0 y1 y2, L[i] = [y0, y1, y2] := by
  match hL : L[i], hl with
  | [a, b, c], _ => exact ⟨a, b, c, rfl⟩
 have r1 := h.setM (by simpa using hn) i 0 (by simpa using hi) (by omega) x0
 have r2 := r1.setM (by simpa using hn) i 1 (by simpa using hi) (by omega) x1
 have r3 := r2.setM (by simpa using hn) i 2 (by simpa using hi) (by omega) x2
 simp only [List.getElem_set_self, List.set_set, hy] at r3
 exact r3
def PVws (w : World) (rs : List Vw) (e : Ending) (w' : World) : Prop := ∃ v, e = .returned v ∧ Vws w' w.heap.size v rs ∧ Ext w w'
theorem fillV_len (rs : List Vw) (k : Nat) (h : k ≤ rs.length) : (rs.take k ++ List.replicate (rs.length - k) noVw).length = rs.length := by simp; omega
theorem fillV_set (rs : List Vw) (k : Nat) (h : k < rs.length) : (rs.take k ++ List.replicate (rs.length - k) noVw).set k (vwAt rs k) = rs.take (k+1) ++ List.replicate (rs.length - (k+1)) noVw := by
 rw [take_vwAt h, show rs.length - k = (rs.length - (k+1)) + 1 by omega, List.replicate_succ]
 rw [List.set_append_right _ _ (by simp; omega), show k - (rs.take k).length = 0 by simp; omega, List.set_cons_zero, List.append_assoc]; rfl
theorem vwAt_rep (n i : Nat) : vwAt (List.replicate n noVw) i = noVw := by
 unfold vwAt
 rw [List.getD_eq_getElem?_getD, List.getElem?_replicate]
 split <;> rfl
theorem rowCV_rep (n : Nat) : rowCV (List.replicate n noVw) (fun _ => .slice none 0 0) = List.replicate n [.int .i64 0, .slice none 0 0, .slice none 0 0] := by
 refine List.ext_getElem (by rw [rowCV_len]; simp) fun i h1 h2 => ?_
 rw [rowCV_get, List.getElem_replicate, vwAt_rep]; rfl
theorem rowCV_put (rs : List Vw) (R : Nat → Value) (k : Nat) (hk : k < rs.length) (e : Vw) (u1 : Value) (u2 : Value) : rowCV (rs.set k e) (fun p => if p = 2 * k then u1 else if p = 2 * k + 1 then u2 else R p) = (rowCV rs R).set k (erowCV e u1 u2) := by
 refine List.ext_getElem (by rw [List.length_set, rowCV_len, rowCV_len, List.length_set]) fun j h1 h2 => ?_
 rw [rowCV_get, List.getElem_set, vwAt_set rs k e j hk]
 by_cases hj : k = j
 ·
  subst hj
  rw [if_pos rfl, if_pos rfl]
  simp only [if_true, if_neg (show ¬ 2 * k + 1 = 2 * k by omega)]
 ·
  rw [if_neg (show ¬ j = k by omega), if_neg hj, rowCV_get]
  simp only [if_neg (show ¬ 2 * j = 2 * k by omega), if_neg (show ¬ 2 * j = 2 * k + 1 by omega), if_neg (show ¬ 2 * j + 1 = 2 * k by omega), if_neg (show ¬ 2 * j + 1 = 2 * k + 1 by omega)]
set_option maxHeartbeats 3200000 in
theorem toViewS_c (rs : List Vw) (v : Value) (w : World) (hv : RawV w v rs) (hl : rs.length ≤ 1048576) (hm : ∀ i, i < rs.length → (vwAt rs i).s.length ≤ 1048576 ∧ (vwAt rs i).t.length ≤ 1048576) :
  Calls Try.prog 54 #[v] w (PVws w rs) := by
 obtain ⟨a, cap, rfl, _, hc⟩ := hv
 obtain ⟨i0, hi, hz0, hz1, hz2⟩ := info_parts infoV
 go_enter Try.func54, Try.ntmps54
 go_wp2_with (at_make; refine wpList_make_full _ rfl _ _ 74 rfl w.heap.size 36 i0 (.agg #[.int .i64 0, .slice none 0 0, .slice none 0 0]) 3 Try.underlying74 hi hz0 hz1 .i64 .i64 _ _ rs.length rfl rfl rfl rfl (by rw [hz2]; omega) (by unfold maxLen; omega) (Nat.le_refl _) ?_)
 intro w1 hown hgr
 have hx : Ext w w1 := (Ext.refl w).grown hgr (by simp)
 have hE : OwnC w1 w.heap.size 36 3 (.slice (some ⟨w.heap.size, 0, none⟩) rs.length rs.length) (rowCV (List.replicate rs.length noVw) (fun _ => .slice none 0 0)) := by
  have e := made_flatM [.int .i64 0, .slice none 0 0, .slice none 0 0] 3 rfl (by omega) rs.length
  change (madeCells #[.int .i64 0, .slice none 0 0, .slice none 0 0] (rs.length * 3)).toList = _ at e
  refine ⟨?_, rowCV_all _ _⟩
  rw [rowCV_rep, List.length_replicate, ← e]
  exact hown
 have hE2 : OwnC w1 w.heap.size 36 3 (.slice (some ⟨w.heap.size, 0, none⟩) rs.length rs.length) (rowCV (rs.take 0 ++ List.replicate (rs.length - 0) noVw) (fun _ => .slice none 0 0)) := by simpa using hE
 clear hgr hown hi hz0 hz1 hz2 hE
 go_wp2_with fail
 go_loopw [4] (fun i wr => ∃ (k : Nat) (R : Nat → Value), k ≤ rs.length ∧ i = .int .i64 k ∧ OwnC wr w.heap.size 36 3 (.slice (some ⟨w.heap.size, 0, none⟩) rs.length rs.length) (rowCV (rs.take k ++ List.replicate (rs.length - k) noVw) R) ∧ Hid (∀ i, i < k → Ints wr (w.heap.size + 1) (R (2 * i)) (vwAt rs i).s ∧ Ints wr (w.heap.size + 1) (R (2 * i + 1)) (vwAt rs i).t) ∧ Ext w wr) (fun i _ => rs.length - (intOf i).toNat)
 case atStart => exact ⟨0, _, Nat.zero_le _, rfl, hE2, Lib.hid (fun i h => absurd h (Nat.not_lt_zero _)), hx⟩
 case round =>
  clear hE2 hx
  obtain ⟨k, R, hk, rfl, hE, hN, Xr⟩ := hrel
  by_cases hlt : k < rs.length
  ·
   have hkI : (k : Int) < rs.length := by omega
   obtain ⟨bl, off, u1, c1, u2, c2, rfl, k0, k1, k2, r1, r2, -⟩ := hc k hlt
   have hm1 := hm k hlt
   replace k0 := Xr.cell k0
   replace k1 := Xr.cell k1
   replace k2 := Xr.cell k2
   replace r1 := r1.ext Xr
   replace r2 := r2.ext Xr
   clear hc hm
   have hfl := fillV_len rs k hk
   have hgw : w.heap.size < wr.heap.size := (hE.blkM _ rfl).2
   go_wp2_with fail
   refine (toView_c (vwAt rs k).b _ _ _ _ _ (r1.ext qXt) (r2.ext qXt) (by omega) (by omega)).mono ?_
   rintro e w2 ⟨u1, u2, rfl, j1, j2, -, -, -, x2⟩
   have E2 : Ext wr w2 := Ext.trans qXt x2
   have X2 : Ext w w2 := Xr.trans E2
   replace j1 := j1.lower (lo' := w.heap.size + 1) (by first | omega | (simp; omega))
   replace j2 := j2.lower (lo' := w.heap.size + 1) (by first | omega | (simp; omega))
   obtain ⟨d1, f1, rfl⟩ := j1.form
   obtain ⟨d2, f2, rfl⟩ := j2.form
   replace hE := hE.ext E2
   have hcl := fun j hj => hE.cellM (by rw [rowCV_len]; exact hfl.symm) k j (by rw [rowCV_len]; omega) hj
   have g0 := (hcl 0 (by omega)).1
   have f_0 := (hcl 0 (by omega)).2
   have g1 := (hcl 1 (by omega)).1
   have f_1 := (hcl 1 (by omega)).2
   have g2 := (hcl 2 (by omega)).1
   have f_2 := (hcl 2 (by omega)).2
   simp only [Nat.add_zero] at g0 f_0
   rw [rowCV_get] at g0 g1 g2
   simp only [erowCV, List.getElem?_cons_zero, List.getElem?_cons_succ] at g0 g1 g2
   generalize (vwAt (rs.take k ++ List.replicate (rs.length - k) noVw) k) = Z at g0 g1 g2
   generalize R (2 * k) = Z1 at g1
   generalize R (2 * k + 1) = Z2 at g2
   have hp := OwnC.putV hE (by rw [rowCV_len]; exact hfl.symm) k (by rw [rowCV_len]; omega) (.int .i64 (vwAt rs k).b) (.slice d1 (vwAt rs k).s.length f1) (.slice d2 (vwAt rs k).t.length f2)
   have hq := rowCV_put (rs.take k ++ List.replicate (rs.length - k) noVw) R k (by omega) (vwAt rs k) (.slice d1 (vwAt rs k).s.length f1) (.slice d2 (vwAt rs k).t.length f2)
   rw [fillV_set rs k hlt] at hq
   rw [show [.int .i64 (vwAt rs k).b, .slice d1 (vwAt rs k).s.length f1, .slice d2 (vwAt rs k).t.length f2] = erowCV (vwAt rs k) (.slice d1 (vwAt rs k).s.length f1) (.slice d2 (vwAt rs k).t.length f2) from rfl, ← hq] at hp
   replace hp := Lib.hid hp
   have hK : Chg (w.heap.size) (w.heap.size + 1) w2 (((w2.setCell ⟨w.heap.size, k * 3, none⟩ (.int .i64 (vwAt rs k).b)).setCell ⟨w.heap.size, k * 3 + 1, none⟩ (.slice d1 (vwAt rs k).s.length f1)).setCell ⟨w.heap.size, k * 3 + 2, none⟩ (.slice d2 (vwAt rs k).t.length f2)) := qCh
   have hN2 : Hid (∀ i, i < k + 1 → Ints (((w2.setCell ⟨w.heap.size, k * 3, none⟩ (.int .i64 (vwAt rs k).b)).setCell ⟨w.heap.size, k * 3 + 1, none⟩ (.slice d1 (vwAt rs k).s.length f1)).setCell ⟨w.heap.size, k * 3 + 2, none⟩ (.slice d2 (vwAt rs k).t.length f2)) (w.heap.size + 1) ((fun p => if p = 2 * k then (.slice d1 (vwAt rs k).s.length f1) else if p = 2 * k + 1 then (.slice d2 (vwAt rs k).t.length f2) else R p) (2 * i)) (vwAt rs i).s ∧ Ints (((w2.setCell ⟨w.heap.size, k * 3, none⟩ (.int .i64 (vwAt rs k).b)).setCell ⟨w.heap.size, k * 3 + 1, none⟩ (.slice d1 (vwAt rs k).s.length f1)).setCell ⟨w.heap.size, k * 3 + 2, none⟩ (.slice d2 (vwAt rs k).t.length f2)) (w.heap.size + 1) ((fun p => if p = 2 * k then (.slice d1 (vwAt rs k).s.length f1) else if p = 2 * k + 1 then (.slice d2 (vwAt rs k).t.length f2) else R p) (2 * i + 1)) (vwAt rs i).t) := Lib.hid (fun i hi => by
    by_cases hik : i < k
    ·
     have h7 := hN.out i hik
     dsimp only
     rw [if_neg (by omega), if_neg (by omega), if_neg (by omega), if_neg (by omega)]
     exact ⟨((h7.1).ext E2).chg hK (Nat.le_refl _), ((h7.2).ext E2).chg hK (Nat.le_refl _)⟩
    ·
     obtain rfl : i = k := by omega
     dsimp only
     rw [if_pos rfl, if_neg (by omega), if_pos rfl]
     exact ⟨j1.chg hK (Nat.le_refl _), j2.chg hK (Nat.le_refl _)⟩)
   clear hq hcl hE hK hN hm1
   go_wp2_with fail
   go_roundw
   case rel => exact ⟨k + 1, _, by omega, by go_num, hp.out, hN2, qXt⟩
   case measure => simp [intOf]; omega
  ·
   obtain rfl : k = rs.length := by omega
   go_wp2_with fail
   go_ret
   simp only [List.take_length, Nat.sub_self, List.replicate_zero, List.append_nil] at hE
   exact ⟨_, rfl, Vws.ofRow hE hN.out hl _ (Nat.le_refl _) (Nat.le_succ _), Xr⟩
set_option maxHeartbeats 1600000 in
theorem eqViewS_c (rs : List Vw) (v1 v2 : Value) (w : World) (l1 l2 : Nat) (h1 : Vws w l1 v1 rs) (h2 : Vws w l2 v2 rs) :
  Calls Try.prog 56 #[v1, v2] w fun e w' => e = .returned (.bool true) ∧ Ext w w' := by
 obtain ⟨a1, c1, rfl⟩ := h1.form
 obtain ⟨a2, c2, rfl⟩ := h2.form
 have hl := h1.len
 go_enter Try.func56, Try.ntmps56
 go_wp2_with fail
 go_loopw [5] (fun i wr => ∃ (k : Nat), k ≤ rs.length ∧ i = .int .i64 k ∧ Ext w wr) (fun i _ => rs.length - (intOf i).toNat)
 case atStart => exact ⟨0, Nat.zero_le _, rfl, qXt⟩
 case round =>
  obtain ⟨k, hk, rfl, Xr⟩ := hrel
  by_cases hlt : k < rs.length
  ·
   have hkI : (k : Int) < rs.length := by omega
   obtain ⟨b1, o1, u1, d1, u2, d2, rfl, x0, x1, x2, i1, i2⟩ := (h1.ext Xr).at k hlt
   obtain ⟨b2, o2, u3, d3, u4, d4, rfl, y0, y1, y2, i3, i4⟩ := (h2.ext Xr).at k hlt
   clear h1 h2
   replace i1 := Lib.hid i1
   replace i2 := Lib.hid i2
   replace i3 := Lib.hid i3
   replace i4 := Lib.hid i4
   go_wp2_with fail
   go_region_with (first
    | (go_at_call 20; refine (eqView_c (vwAt rs k).b _ _ _ _ (vwAt rs k).s (vwAt rs k).t _ _ _ _ _ (i1.out.ext qXt) (i2.out.ext qXt) (i3.out.ext qXt) (i4.out.ext qXt)).mono ?_; rintro e w1 ⟨rfl, x⟩; have X1 : Ext w w1 := Xr.trans (Ext.trans qXt x)))
   all_goals (
    go_wp2_with fail
    go_roundw
    case rel => exact ⟨k + 1, by omega, by go_num, X1⟩
    case measure => simp [intOf]; omega)
  ·
   obtain rfl : k = rs.length := by omega
   go_wp2_with fail
   go_ret
   exact ⟨rfl, Xr⟩

end Go.Proofs.Ytfbbnbpobojboaa

/- What the arguments of a law read as, when they are opened: lists of records (View). No condition. -/
namespace Go.Proofs.Ytfbbnbpobojboaa
open Go.ChangeShapes Go.WideShapes Go.ChangeAt Go.RowKit Go.Joins
set_option linter.unusedVariables false
set_option maxRecDepth 100000

abbrev LVT : TypeId := 27
section
variable {H : Type} {enc : TypeId × Value → H} {w : World} {base : Nat} {spare : Nat → Bool} {held : Bool} {fuel : Nat}
theorem open_elV {cs : List Value} {x : DataW H × List MemPlace} (h : DataW.trod enc Try.prog w base spare held fuel LVT cs = some x) (hn : cs.length = 3) :
    ∃ (e : Vw) (u1 : Option Addr) (c1 : Nat) (u2 : Option Addr) (c2 : Nat), cs = [.int .i64 e.b, .slice u1 e.s.length c1, .slice u2 e.t.length c2] ∧ RawIn w (.slice u1 e.s.length c1) e.s ∧ RawIn w (.slice u2 e.t.length c2) e.t := by
  obtain ⟨y0, y1, y2, n, -, hl, h0, h1, h2⟩ := Deep.trod_struct3 Try.underlying27 h
  have hi : Try.prog.cellsOf 3 = 1 := by kernel_rfl
  have hs : Try.prog.cellsOf 22 = 1 := by kernel_rfl
  match cs, hn with
  | [v0, v1, v2], _ =>
    dsimp only at h0 h1 h2
    rw [hi] at h0
    rw [hs] at h1 h2
    obtain ⟨b, rfl, -⟩ := open_rawInt (v := v0) h0
    obtain ⟨s, hx⟩ := open_rawInts (v := v1) h1
    obtain ⟨t, hy⟩ := open_rawInts (v := v2) h2
    obtain ⟨u1, c1, rfl⟩ := hx.form
    obtain ⟨u2, c2, rfl⟩ := hy.form
    exact ⟨⟨b, s, t⟩, u1, c1, u2, c2, rfl, hx, hy⟩
/-- the records that came in -/
theorem open_rawV {v : Value} {x : DataW H × List MemPlace} (hf : DataW.trod enc Try.prog w base spare held fuel 71 [v] = some x) : ∃ rs, RawV w v rs ∧ rs.length ≤ maxLen := by
  rcases Deep.open_slice Try.underlying71 hf with ⟨hcs, _⟩ | ⟨a, len, cap, m, n, D, Pl, hcs, -, hlc, hcm, hm, -, hel⟩
  · simp at hcs; subst hcs
    exact ⟨[], ⟨none, 0, rfl, fun _ => rfl, fun i hi => absurd hi (by simp)⟩, by simp⟩
  · simp at hcs; subst hcs
    have hlm : len ≤ m := by rw [hm]; split <;> omega
    have hc : Try.prog.cellsOf LVT = 3 := by kernel_rfl
    have each : ∀ i, i < len → ∃ e : Vw, ∃ u1 c1 u2 c2, a.spot = none ∧ w.cell? ⟨a.block, a.off + i * 3, none⟩ = some (.int .i64 e.b) ∧ w.cell? ⟨a.block, a.off + i * 3 + 1, none⟩ = some (.slice u1 e.s.length c1) ∧ w.cell? ⟨a.block, a.off + i * 3 + 2, none⟩ = some (.slice u2 e.t.length c2) ∧ RawIn w (.slice u1 e.s.length c1) e.s ∧ RawIn w (.slice u2 e.t.length c2) e.t := by
      intro i hi
      obtain ⟨cs', h1, h2⟩ := hel i (by omega)
      rw [hc] at h1
      obtain ⟨-, hlen, hcell⟩ := World.cells?_some h1
      obtain ⟨e, u1, c1, u2, c2, rfl, hx1, hx2⟩ := open_elV h2 hlen
      have k0 := hcell 0 (by simp)
      have k1 := hcell 1 (by simp)
      have k2 := hcell 2 (by simp)
      obtain ⟨b, off, spot⟩ := a
      rw [Deep.add_add] at k0 k1 k2
      have hspot : spot = none := by
        obtain ⟨cs0, p1, p2⟩ := hel 0 (by omega)
        rw [hc] at p1
        obtain ⟨-, hl0, hcell0⟩ := World.cells?_some p1
        obtain ⟨e0, a1, b1, a2, b2, rfl, -⟩ := open_elV p2 hl0
        have k9 := hcell0 0 (by omega)
        rw [Deep.add_add] at k9
        have k8 : w.cell? ((⟨b, off, spot⟩ : Addr).add 0) = some (.int .i64 e0.b) := by simpa using k9
        have k7 := World.cell?_spot k8
        simpa [Addr.add] using k7
      subst hspot
      have e7 : ∀ j, (⟨b, off, none⟩ : Addr).add j = ⟨b, off + j, none⟩ := fun j => by unfold Addr.add; split <;> simp_all
      rw [e7] at k0 k1 k2
      exact ⟨e, u1, c1, u2, c2, rfl, by simpa [Nat.add_assoc] using k0, by simpa [Nat.add_assoc] using k1, by simpa [Nat.add_assoc] using k2, hx1, hx2⟩
    haveI : Inhabited Vw := ⟨noVw⟩
    obtain ⟨f, hF⟩ := Deep.choose_lt each
    have hl : ((List.range len).map f).length = len := by simp
    have hg : ∀ i, i < len → vwAt ((List.range len).map f) i = f i := fun i hi => by
      rw [vwAt_get (by rw [hl]; exact hi)]; simp
    refine ⟨(List.range len).map f, ⟨some a, cap, by rw [hl], (fun h => by cases h), fun i hi => ?_⟩, by rw [hl]; omega⟩
    rw [hl] at hi
    rw [hg i hi]
    obtain ⟨u1, c1, u2, c2, hsp, k0, k1, k2, hx1, hx2⟩ := hF i hi
    obtain ⟨b, off, spot⟩ := a
    cases hsp
    exact ⟨b, off, u1, c1, u2, c2, rfl, k0, k1, k2, hx1.1, hx2.1, hx1.2, hx2.2⟩
end

end Go.Proofs.Ytfbbnbpobojboaa

/- Walks: OffsetsOf and IsRow of the program and of the reference. -/
namespace Go.Proofs.Ytfbbnbpobojboaa
open Go.RowKit
set_option linter.unusedVariables false
set_option maxRecDepth 100000


end Go.Proofs.Ytfbbnbpobojboaa

/- Walks: rowStrides of the program. -/
namespace Go.Proofs.Ytfbbnbpobojboaa
open Go.RowKit
set_option linter.unusedVariables false
set_option maxRecDepth 100000

end Go.Proofs.Ytfbbnbpobojboaa

/- Helpers of the laws: equal lists, equal views, a number in a list. -/
namespace Go.Proofs.Ytfbbnbpobojboaa
open Go.RowKit
set_option linter.unusedVariables false
set_option maxRecDepth 100000



end Go.Proofs.Ytfbbnbpobojboaa

/- Walks: LoadView of the program and of the reference. -/
namespace Go.Proofs.Ytfbbnbpobojboaa
open Go.RowKit
set_option linter.unusedVariables false
set_option maxRecDepth 100000


theorem PInts.no {w w' : World} (h : Ext w w') : PInts w [] (.returned (.slice none 0 0)) w' :=
  ⟨_, rfl, Ints.nil _ _ _ _ (by simp) (fun _ => rfl), .inl ⟨rfl, none, 0, rfl, by simp, fun _ => rfl⟩, h⟩

end Go.Proofs.Ytfbbnbpobojboaa

/- Plain laws on memories: what is stored last stays, what is added, sums. -/
namespace Go.Proofs.Ytfbbnbpobojboaa
open Go.RowKit
set_option linter.unusedVariables false
set_option maxRecDepth 100000

end Go.Proofs.Ytfbbnbpobojboaa

/- Walks: indices, ranks, rows, sums. -/
namespace Go.Proofs.Ytfbbnbpobojboaa
open Go.RowKit
set_option linter.unusedVariables false
set_option maxRecDepth 100000


theorem vw {b : Int} {s t : List Int} (h : viewB b s t = true) : s.length ≤ t.length ∧ (0 < countL s → ∀ e ∈ s, 1 ≤ e) ∧ countL s ≤ 1000000 ∧ Small s := by
  obtain ⟨h1, h2, h3, h4, h5⟩ := viewB_in h
  have h6 := shapeB_in h1
  exact ⟨by omega, h6.2.2.2.2, by omega, Small.of h1⟩
theorem sh {s : List Int} (h : shapeB s = true) : Small s ∧ (0 < countL s → ∀ e ∈ s, 1 ≤ e) ∧ countL s ≤ 1000000 := by
  have h6 := shapeB_in h
  exact ⟨Small.of h, h6.2.2.2.2, by omega⟩
/-- the first k numbers are within the extents -/
def OkTo (s r : List Int) (k : Nat) : Prop := ∀ j, j < k → 0 ≤ r.getD j 0 ∧ r.getD j 0 < s.getD j 0
theorem OkTo.zero (s r : List Int) : OkTo s r 0 := fun j h => absurd h (by omega)
theorem OkTo.succ {s r : List Int} {k : Nat} (h : OkTo s r k) {x e : Int} (hx : r.getD k 0 = x) (he : s.getD k 0 = e) (h1 : 0 ≤ x) (h2 : x < e) : OkTo s r (k+1) := fun j hj => by
  by_cases hjk : j = k
  · subst hjk; rw [hx, he]; exact ⟨h1, h2⟩
  · exact h j (by omega)
end Go.Proofs.Ytfbbnbpobojboaa

/- Plain laws: lists of views; views that tile cells. No condition. -/
namespace Go.Proofs.Ytfbbnbpobojboaa
open Go.RowKit
set_option linter.unusedVariables false
set_option maxRecDepth 100000

/-- are the first k views valid? -/
def vsB (vs : List Vw) (k : Nat) : Bool := (List.range k).all fun i => viewB (vwAt vs i).b (vwAt vs i).s (vwAt vs i).t
theorem vsB_succ (vs : List Vw) (k : Nat) : vsB vs (k+1) = (vsB vs k && viewB (vwAt vs k).b (vwAt vs k).s (vwAt vs k).t) := by unfold vsB; rw [List.range_succ, List.all_append]; simp
theorem vsB_no {vs : List Vw} {k n : Nat} (h : k < n) (hk : viewB (vwAt vs k).b (vwAt vs k).s (vwAt vs k).t = false) : vsB vs n = false := by
  unfold vsB
  rw [Bool.eq_false_iff]
  intro h2
  rw [List.all_eq_true] at h2
  have := h2 k (List.mem_range.2 h)
  rw [hk] at this; cases this
theorem vsB_at {vs : List Vw} {n : Nat} (h : vsB vs n = true) (k : Nat) (hk : k < n) : viewB (vwAt vs k).b (vwAt vs k).s (vwAt vs k).t = true := by
  unfold vsB at h
  rw [List.all_eq_true] at h
  exact h k (List.mem_range.2 hk)
/-- at most eight valid views -/
def viewsB (vs : List Vw) : Bool := decide (vs.length ≤ 8) && vsB vs vs.length
theorem viewsB_in {vs : List Vw} (h : viewsB vs = true) : vs.length ≤ 8 ∧ vsB vs vs.length = true := by unfold viewsB at h; simpa using h
/-- the cells of the first k views -/
def catV (vs : List Vw) (k : Nat) : List Int := (List.range k).flatMap fun i => offsL (vwAt vs i).b (vwAt vs i).s (vwAt vs i).t
theorem catV_succ (vs : List Vw) (k : Nat) : catV vs (k+1) = catV vs k ++ offsL (vwAt vs k).b (vwAt vs k).s (vwAt vs k).t := by unfold catV; rw [List.range_succ, List.flatMap_append]; simp
theorem offs_len60 {b : Int} {s t : List Int} (h : viewB b s t = true) : (offsL b s t).length ≤ 60 := by
  rw [offs_count]
  have := shapeB_in (viewB_in h).1
  omega
theorem catV_len {vs : List Vw} {n : Nat} (h : vsB vs n = true) (k : Nat) (hk : k ≤ n) : (catV vs k).length ≤ 60 * k := by
  induction k with
  | zero => simp [catV]
  | succ k ih =>
    rw [catV_succ, List.length_append]
    have := offs_len60 (vsB_at h k (by omega))
    have := ih (by omega)
    omega
theorem perm_sub {α : Type} [BEq α] [LawfulBEq α] : ∀ (l m : List α), l.Nodup → m.Nodup → (∀ x ∈ l, x ∈ m) → l.length = m.length → l.Perm m
  | [], m, _, _, _, h => by cases m <;> simp_all
  | a :: l, m, hl, hm, hs, h => by
    have ha : a ∈ m := hs a (by simp)
    have p := List.perm_cons_erase ha
    refine List.Perm.trans ?_ p.symm
    refine List.Perm.cons a (perm_sub l (m.erase a) (List.nodup_cons.1 hl).2 (hm.erase a) ?_ ?_)
    · intro x hx
      rw [hm.mem_erase_iff]
      exact ⟨fun e => (List.nodup_cons.1 hl).1 (e ▸ hx), hs x (by simp [hx])⟩
    · have := p.length_eq; simp at this h ⊢; omega
theorem upL_length (n : Nat) : (upL n).length = n := by simp [upL]
/-- are these the cells below n, each once? -/
def tileL (xs : List Int) (n : Int) : Bool := decide (sortL xs = upL xs.length) && decide ((xs.length : Int) = n)
theorem tileL_of (xs : List Int) (n : Int) : tileL xs n = ((decide xs.Nodup && xs.all (inB 0 (n - 1))) && decide ((xs.length : Int) = n)) := by
  unfold tileL
  by_cases hn : (xs.length : Int) = n
  · rw [decide_eq_true hn, Bool.and_true, Bool.and_true]
    by_cases hs : sortL xs = upL xs.length
    · rw [decide_eq_true hs]
      have hp : xs.Perm (upL xs.length) := by rw [← hs]; exact (List.mergeSort_perm _ _).symm
      have h1 : xs.Nodup := (hp.nodup_iff).2 (asc_nodup (upL_asc _))
      rw [decide_eq_true h1, Bool.true_and]
      symm
      rw [List.all_eq_true]
      intro x hx
      have := (upL_mem _ x).1 (hp.mem_iff.1 hx)
      unfold inB; simp; omega
    · rw [decide_eq_false hs]
      symm
      rw [Bool.eq_false_iff]
      intro h
      rw [Bool.and_eq_true, decide_eq_true_eq, List.all_eq_true] at h
      have hp := perm_sub xs (upL xs.length) h.1 (asc_nodup (upL_asc _)) (fun x hx => (upL_mem _ x).2 (by have := h.2 x hx; unfold inB at this; simp at this; omega)) (by rw [upL_length])
      refine hs (asc_ext _ _ ?_ (upL_asc _) fun x => ?_)
      · have a := sortL_asc xs
        have b : (sortL xs).Nodup := ((List.mergeSort_perm _ _).nodup_iff).2 h.1
        rw [List.nodup_iff_pairwise_ne] at b
        exact (a.and b).imp (fun hh => by obtain ⟨p, q⟩ := hh; omega)
      · rw [sortL_mem]; exact hp.mem_iff
  · rw [decide_eq_false hn, Bool.and_false, Bool.and_false]
def tilesB (vs : List Vw) (n : Int) : Bool := (viewsB vs && inB 0 60 n) && tileL (catV vs vs.length) n
theorem up_take {ys : List Int} {n k : Nat} (h : ys.length = n) (hk : ys.take k = upL k) (hlt : k < n) (he : ys.getD k 0 = (k : Int)) : ys.take (k+1) = upL (k+1) := by
  rw [List.take_succ_eq_append_getElem (by omega), hk, upL_succ]
  rw [List.getD_eq_getElem?_getD, List.getElem?_eq_getElem (by omega)] at he
  simpa using he
theorem up_not {ys : List Int} {n k : Nat} (hlt : k < n) (he : ys.getD k 0 ≠ (k : Int)) : ys ≠ upL n := by
  intro h
  subst h
  apply he
  simp [upL, hlt]
theorem tiles_end {vs : List Vw} {n : Int} {N : Nat} {ys : List Int} (h1 : viewsB vs = true) (h2 : inB 0 60 n = true) (hN : (catV vs vs.length).length = N) (hy : sortL (catV vs vs.length) = ys) : tilesB vs n = (decide (ys = upL N) && decide ((N : Int) = n)) := by
  unfold tilesB tileL; rw [h1, h2, hN, hy]; rfl
theorem tiles_spec {vs : List Vw} {n : Int} (h1 : viewsB vs = true) (h2 : inB 0 60 n = true) : tilesB vs n = ((decide (catV vs vs.length).Nodup && (catV vs vs.length).all (inB 0 (n - 1))) && decide (((catV vs vs.length).length : Int) = n)) := by
  unfold tilesB; rw [h1, h2, tileL_of]; rfl
end Go.Proofs.Ytfbbnbpobojboaa

/- Walks: lists of valid views. -/
namespace Go.Proofs.Ytfbbnbpobojboaa
open Go.RowKit
set_option linter.unusedVariables false
set_option maxRecDepth 100000

set_option maxHeartbeats 1600000 in
theorem notView_c (b : Int) (u v : Value) (s t : List Int) (w : World) (l1 l2 : Nat) (h1 : Ints w l1 u s) (h2 : Ints w l2 v t) :
    Calls Try.prog 156 (#[.agg #[.int .i64 b, u, v]] ++ #[]) w fun e w' => e = .returned (.bool (!viewB b s t)) ∧ Ext w w' := by
  obtain ⟨a1, c1, rfl⟩ := h1.form
  obtain ⟨a2, c2, rfl⟩ := h2.form
  rw [show (#[Value.agg #[.int .i64 b, .slice a1 s.length c1, .slice a2 t.length c2]] ++ #[]) = #[Value.agg #[.int .i64 b, .slice a1 s.length c1, .slice a2 t.length c2]] by simp]
  go_enter Try.func156, Try.ntmps156
  go_wp2_with fail
  refine (isView_c b _ _ s t _ _ _ (h1.ext qXt) (h2.ext qXt)).mono ?_
  rintro e w1 ⟨rfl, x1⟩
  have X1 : Ext w w1 := Ext.trans qXt x1
  go_wp2_with fail
  go_ret
  exact ⟨rfl, X1⟩
set_option maxHeartbeats 3200000 in
theorem idxViews_c (vs : List Vw) (v : Value) (w : World) (lo : Nat) (hv : Vws w lo v vs) :
    Calls Try.prog 179 #[v, .func (.func 156) #[] #[]] w fun e w' => (∃ r : Int, e = .returned (.int .i64 r) ∧ decide (0 ≤ r) = !vsB vs vs.length) ∧ Ext w w' := by
  have hr := fun args w => run_callFunc 156 args w ⟨Try.f156, Try.func156, rfl, by decide +kernel⟩
  obtain ⟨a, c, rfl⟩ := hv.form
  have hl := hv.len
  go_enter Try.func179, Try.ntmps179
  go_wp2_with fail
  go_loopw [8] (fun i wr => ∃ k : Nat, k ≤ vs.length ∧ i = .int .i64 k ∧ Hid (vsB vs k = true) ∧ Ext w wr) (fun i _ => vs.length - (intOf i).toNat)
  case atStart => exact ⟨0, Nat.zero_le _, rfl, Lib.hid rfl, qXt⟩
  case round =>
    obtain ⟨k, hk, rfl, hall, Xr⟩ := hrel
    by_cases hlt : k < vs.length
    · have hkI : (k : Int) < vs.length := by omega
      obtain ⟨bl, off, u1, c1, u2, c2, rfl, k0, k1, k2, i1, i2⟩ := (hv.ext Xr).at k hlt
      have G1 := Lib.hid i1
      have G2 := Lib.hid i2
      clear hv i1 i2
      cases hp : viewB (vwAt vs k).b (vwAt vs k).s (vwAt vs k).t
      · replace hp := Lib.hid hp
        have hs : Hid (decide (0 ≤ (k : Int)) = !vsB vs vs.length) := Lib.hid (by rw [vsB_no hlt hp.out]; simp)
        go_wp2_with fail
        refine (notView_c _ _ _ _ _ _ _ _ (G1.out.ext qXt) (G2.out.ext qXt)).mono ?_
        rintro e w1 ⟨rfl, x1⟩
        rw [hp.out]
        have X1 : Ext w w1 := Xr.trans (Ext.trans qXt x1)
        clear x1
        go_wp2_with fail
        go_ret
        exact ⟨⟨_, rfl, hs.out⟩, X1⟩
      · replace hp := Lib.hid hp
        go_wp2_with fail
        refine (notView_c _ _ _ _ _ _ _ _ (G1.out.ext qXt) (G2.out.ext qXt)).mono ?_
        rintro e w1 ⟨rfl, x1⟩
        rw [hp.out]
        have X1 : Ext w w1 := Xr.trans (Ext.trans qXt x1)
        clear x1
        go_wp2_with fail
        go_roundw
        case rel => exact ⟨k+1, by omega, by go_num, Lib.hid (by rw [vsB_succ, hall.out, hp.out]; rfl), qXt⟩
        case measure => simp [intOf]; omega
    · obtain rfl : k = vs.length := by omega
      go_wp2_with fail
      go_ret
      exact ⟨⟨_, rfl, by rw [hall.out]; rfl⟩, qXt⟩
set_option maxHeartbeats 1600000 in
theorem anyView_c (vs : List Vw) (v : Value) (w : World) (lo : Nat) (hv : Vws w lo v vs) :
    Calls Try.prog 155 #[v, .func (.func 156) #[] #[]] w fun e w' => e = .returned (.bool (!vsB vs vs.length)) ∧ Ext w w' := by
  go_enter Try.func155, Try.ntmps155
  go_wp2_with fail
  refine (idxViews_c vs v _ lo hv).mono ?_
  rintro e w1 ⟨⟨r, rfl, hd⟩, x1⟩
  replace hd := Lib.hid hd
  go_wp2_with fail
  go_ret
  exact ⟨by rw [← hd.out]; rfl, qXt⟩
set_option maxHeartbeats 1600000 in
theorem areViews_c (vs : List Vw) (v : Value) (w : World) (lo : Nat) (hv : Vws w lo v vs) :
    Calls Try.prog 109 #[v] w fun e w' => e = .returned (.bool (viewsB vs)) ∧ Ext w w' := by
  obtain ⟨a, c, rfl⟩ := hv.form
  have hl := hv.len
  by_cases h8 : vs.length ≤ 8
  · have h8I : (vs.length : Int) ≤ 8 := by omega
    have hq : Hid (viewsB vs = vsB vs vs.length) := Lib.hid (by unfold viewsB; rw [decide_eq_true h8]; rfl)
    go_enter Try.func109, Try.ntmps109
    go_wp2_with fail
    refine (anyView_c vs _ _ lo hv).mono ?_
    rintro e w1 ⟨rfl, x1⟩
    go_wp2_with fail
    go_ret
    exact ⟨by rw [hq.out]; simp, qXt⟩
  · have h8I : ¬ (vs.length : Int) ≤ 8 := by omega
    have hq : Hid (viewsB vs = false) := Lib.hid (by unfold viewsB; rw [decide_eq_false h8]; rfl)
    go_enter Try.func109, Try.ntmps109
    go_wp2_with fail
    go_ret
    exact ⟨by rw [hq.out] <;> rfl, qXt⟩
set_option maxHeartbeats 3200000 in
theorem validViews_c (vs : List Vw) (v : Value) (w : World) (lo : Nat) (hv : Vws w lo v vs) :
    Calls Try.prog 106 #[v] w fun e w' => e = .returned (.bool (viewsB vs)) ∧ Ext w w' := by
  obtain ⟨a, c, rfl⟩ := hv.form
  have hl := hv.len
  go_enter Try.func106, Try.ntmps106
  go_wp2_with fail
  go_loopw [3] (fun i wr => ∃ k : Nat, k ≤ vs.length ∧ i = .int .i64 k ∧ Hid (vsB vs k = true) ∧ Ext w wr) (fun i _ => vs.length - (intOf i).toNat)
  case atStart => exact ⟨0, Nat.zero_le _, rfl, Lib.hid rfl, qXt⟩
  case round =>
    obtain ⟨k, hk, rfl, hall, Xr⟩ := hrel
    by_cases hlt : k < vs.length
    · have hkI : (k : Int) < vs.length := by omega
      obtain ⟨bl, off, u1, c1, u2, c2, rfl, k0, k1, k2, i1, i2⟩ := (hv.ext Xr).at k hlt
      have G1 := Lib.hid i1
      have G2 := Lib.hid i2
      clear hv i1 i2
      cases hp : viewB (vwAt vs k).b (vwAt vs k).s (vwAt vs k).t
      · replace hp := Lib.hid hp
        have hs : Hid (viewsB vs = false) := Lib.hid (by unfold viewsB; rw [vsB_no hlt hp.out]; simp)
        go_wp2_with fail
        refine (validView_c _ _ _ _ _ _ _ _ (G1.out.ext qXt) (G2.out.ext qXt)).mono ?_
        rintro e w1 ⟨rfl, x1⟩
        rw [hp.out]
        have X1 : Ext w w1 := Xr.trans (Ext.trans qXt x1)
        clear x1
        go_wp2_with fail
        go_ret
        exact ⟨by rw [hs.out] <;> rfl, X1⟩
      · replace hp := Lib.hid hp
        go_wp2_with fail
        refine (validView_c _ _ _ _ _ _ _ _ (G1.out.ext qXt) (G2.out.ext qXt)).mono ?_
        rintro e w1 ⟨rfl, x1⟩
        rw [hp.out]
        have X1 : Ext w w1 := Xr.trans (Ext.trans qXt x1)
        clear x1
        go_wp2_with fail
        go_roundw
        case rel => exact ⟨k+1, by omega, by go_num, Lib.hid (by rw [vsB_succ, hall.out, hp.out]; rfl), qXt⟩
        case measure => simp [intOf]; omega
    · obtain rfl : k = vs.length := by omega
      have hs : Hid (viewsB vs = decide ((vs.length : Int) ≤ 8)) := Lib.hid (by unfold viewsB; rw [hall.out, Bool.and_true]; exact decide_eq_decide.2 (by omega))
      go_wp2_with fail
      go_ret
      exact ⟨by rw [hs.out] <;> rfl, qXt⟩
end Go.Proofs.Ytfbbnbpobojboaa

/- Walks: TilesOf of both. -/
namespace Go.Proofs.Ytfbbnbpobojboaa
open Go.RowKit
set_option linter.unusedVariables false
set_option maxRecDepth 100000

set_option maxHeartbeats 3200000 in
theorem implTilesOf_c (vs : List Vw) (v : Value) (n : Int) (w : World) (lo : Nat) (hv : Vws w lo v vs) :
  Calls Try.prog 55 #[v, .int .i64 n] w (fun e w' => e = .returned (.bool (tilesB vs n)) ∧ Ext w w') := by
 obtain ⟨p0, c0, rfl⟩ := hv.form
 have hvl := hv.len
 go_enter Try.func55, Try.ntmps55
 go_wp2_with fail
 refine (areViews_c vs (.slice p0 vs.length c0) _ _ (hv.ext qXt)).mono ?_
 rintro e w1 ⟨rfl, xw1⟩
 have Lw1 : Ext w w1 := Ext.trans qXt xw1
 have Xw1 : Ext w w1 := Lw1
 have s_w1 : w.heap.size ≤ w1.heap.size := Xw1.size
 clear xw1
 cases hB1 : viewsB vs
 ·
  replace hB1 := Lib.hid hB1
  go_wp2_with fail
  go_ret
  exact ⟨by rw [show tilesB vs n = false from by unfold tilesB; rw [hB1.out]; rfl] <;> rfl, (Xw1.trans qXt)⟩
 ·
  replace hB1 := Lib.hid hB1
  obtain ⟨h8, hvs⟩ := viewsB_in hB1.out
  replace hvs := Lib.hid hvs
  go_wp2_with fail
  refine (areCells_c n _).mono ?_
  rintro e w' ⟨rfl, rfl⟩
  cases hB2 : inB 0 60 n
  ·
   replace hB2 := Lib.hid hB2
   go_wp2_with fail
   go_ret
   exact ⟨by rw [show tilesB vs n = false from by unfold tilesB; rw [hB1.out, hB2.out]; rfl] <;> rfl, (Xw1.trans qXt)⟩
  ·
   replace hB2 := Lib.hid hB2
   have hn60 : 0 ≤ n ∧ n ≤ 60 := by have h7 := hB2.out; unfold inB at h7; simpa using h7
   have hw7 : IntKind.i64.wrap (n - 1) = n - 1 := IntWalk.i64_in _ (by omega)
   go_wp2_with fail
   have BL4 : Ext w1 w1 := Ext.refl _
   have zG_BL4 := (BL4).size
   skip
   go_loopw [5, 21] (fun gv i wr => ∃ (k : Nat), k ≤ vs.length ∧ i = .int .i64 k ∧ OwnI wr w1.heap.size gv (catV vs k) ∧ Ext w1 wr) (fun _ i _ => vs.length - (intOf i).toNat)
   case atStart => exact ⟨0, Nat.zero_le _, rfl, (by rw [show catV vs 0 = [] from rfl]; exact (OwnI.lit0 w1 w1.heap.size (Nat.le_refl _))), qXt⟩
   case round =>
    obtain ⟨k, hk, rfl, OG, Lwr⟩ := hrel
    have Xwr : Ext w wr := Xw1.trans Lwr
    have s_wr : w.heap.size ≤ wr.heap.size := Xwr.size
    have t_wr : w1.heap.size ≤ wr.heap.size := Lwr.size
    have BL4_wr : Ext w1 wr := BL4.trans Lwr
    have Bwr : Ext w1 wr := Lwr
    obtain ⟨ga6, gc7, rfl⟩ := (OG.ints (by have := (show (catV vs k).length ≤ 1000000 by have := catV_len hvs.out k hk; omega); omega)).form
    have OG5 := OG
    clear OG
    by_cases hlt : k < vs.length
    ·
     have hkI : (k : Int) < vs.length := by omega
     have hN_x8 : k < vs.length := hlt
     have hI_x8 : (k : Int) < (vs.length : Int) := by omega
     obtain ⟨bl10, ol11, u12, c14, u13, c15, rfl, x80, x81, x82, i16, i17⟩ := hv.at k hN_x8
     obtain ⟨X9, hX9⟩ : ∃ x, vwAt vs k = x := ⟨_, rfl⟩
     rw [hX9] at x80 x81 x82 i16 i17
     obtain ⟨B18, S19, T20⟩ := X9
     dsimp only at x80 x81 x82 i16 i17
     replace hX9 := Lib.hid hX9
     have hLS19 := i16.len
     have hLT20 := i17.len
     have y_x8 : bl10 < w.heap.size := qB x80
     replace x80 := Xwr.cell x80
     replace x81 := Xwr.cell x81
     replace x82 := Xwr.cell x82
     have z_x8 : bl10 < wr.heap.size := qB x80
     have hvwhX9 : Hid (viewB B18 S19 T20 = true) := Lib.hid (by have h7 := vsB_at hvs.out k hlt; rw [hX9.out] at h7; exact h7)
     go_wp2_with fail
     refine (offsetsOf_c B18 (.slice u12 S19.length c14) (.slice u13 T20.length c15) S19 T20 _ _ _ (i16.ext (Xwr.trans qXt)) (i17.ext (Xwr.trans qXt)) (by first | omega | exact (vw hvwhX9.out).1 | exact (vw hvwhX9.out).2.1 | exact (vw hvwhX9.out).2.2.1 | exact (vw hvwhX9.out).2.2.2) (by first | omega | exact (vw hvwhX9.out).1 | exact (vw hvwhX9.out).2.1 | exact (vw hvwhX9.out).2.2.1 | exact (vw hvwhX9.out).2.2.2) (by first | omega | exact (vw hvwhX9.out).1 | exact (vw hvwhX9.out).2.1 | exact (vw hvwhX9.out).2.2.1 | exact (vw hvwhX9.out).2.2.2)).mono ?_
     rintro e w2 ⟨fv22, rfl, i23, -, xw2⟩
     have Lw2 : Ext wr w2 := Ext.trans qXt xw2
     have Xw2 : Ext w w2 := Xwr.trans Lw2
     replace x80 := Lw2.cell x80
     replace x81 := Lw2.cell x81
     replace x82 := Lw2.cell x82
     have b210 : w2.cell? ⟨wr.heap.size, 0, none⟩ = some (.int .i64 B18) := xw2.cell qCl
     have b211 : w2.cell? ⟨wr.heap.size, 1, none⟩ = some (.slice u12 S19.length c14) := xw2.cell qCl
     have b212 : w2.cell? ⟨wr.heap.size, 2, none⟩ = some (.slice u13 T20.length c15) := xw2.cell qCl
     have z_x8 : bl10 < w2.heap.size := qB x80
     have z_b21 : wr.heap.size < w2.heap.size := qB b210
     replace OG5 := OG5.ext Lw2
     have s_w2 : w.heap.size ≤ w2.heap.size := Xw2.size
     have BL4_w2 : Ext w1 w2 := BL4_wr.trans Lw2
     have Bwr_w2 : Ext w1 w2 := Bwr.trans Lw2
     clear xw2
     try simp only [World.size_alloc, World.size_drew] at i23
     obtain ⟨afv22, cfv22, rfl⟩ := i23.form
     have zGB := (Bwr_w2).size
     have EE : Ext w2 (w2) := qXt
     have hAL : (offsL B18 S19 T20).length ≤ 1000000 := (by have := offs_len60 hvwhX9.out; omega)
     have SS : Ints (w2) 0 (.slice afv22 ((offsL B18 S19 T20).length) cfv22) (offsL B18 S19 T20) := (i23.ext EE).lower (Nat.zero_le _)
     go_wp2_with (
      at_builtin
      refine wpList_app rfl (.tmp 25) (.tmp 27) rfl rfl rfl (by exact OG5.ext EE) (by exact SS) (by have := (show (catV vs k).length ≤ 1000000 by have := catV_len hvs.out k hk; omega); first | omega | (simp only [List.length_append, List.length_cons, List.length_nil]; omega)) qSo ?_
      intro vw3 w3 ho hg7 hbl hv7
      clear hg7 hv7
      obtain ⟨ga24, rr25, rfl⟩ : ∃ a c, vw3 = .slice a ((catV vs k).length + (offsL B18 S19 T20).length) c := by obtain ⟨a, c, h⟩ := (ho.ints (by simp only [List.length_append, List.length_cons, List.length_nil]; have := (show (catV vs k).length ≤ 1000000 by have := catV_len hvs.out k hk; omega); omega)).form; exact ⟨a, c, by rw [h, List.length_append]⟩
      have Xw3 : Ext w w3 := Ext.below (Xw2.trans EE) hbl (by omega)
      have BL4_w3 : Ext w1 w3 := Ext.below (Ext.trans BL4_w2 EE) hbl (by omega)
      have Bwr_w3 : Ext w1 w3 := Ext.below (Ext.trans Bwr_w2 EE) hbl (by omega)
      clear x80 x81 x82
      clear b210 b211 b212
      clear i23
      clear OG5
      have OG5 := ho
      clear ho hbl EE SS zGB hAL
      have s_w3 : w.heap.size ≤ w3.heap.size := Xw3.size)
     go_wp2_with fail
     go_roundw
     case rel => exact ⟨k + 1, by omega, by go_num, (by rw [show catV vs (k+1) = catV vs k ++ offsL B18 S19 T20 by rw [catV_succ, hX9.out]]; exact OG5.ext qXt), (Bwr_w3.trans qXt)⟩
     case measure => simp [intOf]; omega
    ·
     obtain rfl : k = vs.length := by omega
     have hkI : ¬ (vs.length : Int) < vs.length := by omega
     go_wp2_with fail
     have hcl := catV_len hvs.out vs.length (Nat.le_refl _)
     have hzb := (Bwr).size
     refine (sort_c (catV vs vs.length) (.slice ga6 ((catV vs vs.length).length) gc7) _ _ OG5.z (by omega) hzb).mono ?_
     rintro e wS ⟨rfl, OS, hbl⟩
     have XS : Ext w wS := Ext.below Xwr hbl (by omega)
     clear hbl OG5
     obtain ⟨ys, hys⟩ : ∃ ys, sortL (catV vs vs.length) = ys := ⟨_, rfl⟩
     obtain ⟨N, hN⟩ : ∃ N, (catV vs vs.length).length = N := ⟨_, rfl⟩
     have hy0 := sortL_len (catV vs vs.length)
     rw [hys, hN] at hy0
     have hy1 : ys.length ≤ N := by omega
     have hy2 : N ≤ ys.length := by omega
     clear hy0
     rw [hN] at hcl
     rw [hN, hys] at OS
     rw [hN]
     replace hys := Lib.hid hys
     replace hN := Lib.hid hN
     have OI := OS.ints (by omega)
     clear OS
     have s_wS := XS.size
     go_wp2_with fail
     go_loopw [34] (fun i wr => ∃ (j : Nat), j ≤ N ∧ i = .int .i64 j ∧ Hid (ys.take j = upL j) ∧ Ext wS wr) (fun i _ => N - (intOf i).toNat)
     case atStart => exact ⟨0, Nat.zero_le _, rfl, Lib.hid rfl, qXt⟩
     case round =>
      obtain ⟨j, hj, rfl, htk, Lwr⟩ := hrel
      have Xwr : Ext w wr := XS.trans Lwr
      have s_wr : w.heap.size ≤ wr.heap.size := Xwr.size
      have t_wr : wS.heap.size ≤ wr.heap.size := Lwr.size
      replace OI := OI.ext Lwr
      have Bj : Ext wS wr := Lwr
      by_cases hjl : j < N
      ·
       have hjI : (j : Int) < (N : Int) := by omega
       have hN_e28 : j < ys.length := (by omega)
       have hI_e28 : (j : Int) < (ys.length : Int) := by omega
       obtain ⟨bl26, ol27, rfl, e280⟩ := OI.at j (by omega)
       obtain ⟨v29, hv29⟩ : ∃ v, ys.getD j 0 = v := ⟨_, rfl⟩
       rw [hv29] at e280
       replace hv29 := Lib.hid hv29
       have y_e28 : bl26 < wr.heap.size := qB e280
       have z_e28 := y_e28
       by_cases hc30 : (v29 : Int) = (j : Int)
       ·
        have hc30e : ((v29 : Int) == (j : Int)) = true := by simpa using hc30
        have hc30n : ((v29 : Int) != (j : Int)) = false := by simpa using hc30
        replace hc30 := Lib.hid hc30
        go_wp2_with fail
        go_roundw
        case rel => exact ⟨j + 1, by omega, by go_num, Lib.hid (up_take (Nat.le_antisymm hy1 hy2) htk.out hjl (by rw [hv29.out]; exact hc30.out)), (Bj.trans qXt)⟩
        case measure => simp [intOf]; omega
       ·
        have hc30e : ((v29 : Int) == (j : Int)) = false := by simpa using hc30
        have hc30n : ((v29 : Int) != (j : Int)) = true := by simpa using hc30
        replace hc30 := Lib.hid hc30
        go_wp2_with fail
        go_ret
        exact ⟨by rw [show tilesB vs n = false from by rw [tiles_end hB1.out hB2.out hN.out hys.out, decide_eq_false (up_not hjl (by rw [hv29.out]; exact hc30.out))]; rfl] <;> rfl, (Xwr.trans qXt)⟩
      ·
       have hjN : j = N := by omega
       have hjI : ¬ (j : Int) < (N : Int) := by omega
       have hys2 : Hid (ys = upL N) := Lib.hid (by have h7 := htk.out; rw [hjN, List.take_of_length_le hy1] at h7; exact h7)
       clear hjN
       by_cases hc31 : (N : Int) = (n : Int)
       ·
        have hc31e : ((N : Int) == (n : Int)) = true := by simpa using hc31
        have hc31n : ((N : Int) != (n : Int)) = false := by simpa using hc31
        replace hc31 := Lib.hid hc31
        go_wp2_with fail
        go_ret
        exact ⟨by rw [show tilesB vs n = true from by rw [tiles_end hB1.out hB2.out hN.out hys.out, decide_eq_true hys2.out, decide_eq_true (show (N : Int) = n from hc31.out)]; rfl] <;> rfl, (Xwr.trans qXt)⟩
       ·
        have hc31e : ((N : Int) == (n : Int)) = false := by simpa using hc31
        have hc31n : ((N : Int) != (n : Int)) = true := by simpa using hc31
        replace hc31 := Lib.hid hc31
        go_wp2_with fail
        go_ret
        exact ⟨by rw [show tilesB vs n = false from by rw [tiles_end hB1.out hB2.out hN.out hys.out, decide_eq_true hys2.out, decide_eq_false (show ¬ (N : Int) = n from hc31.out)]; rfl] <;> rfl, (Xwr.trans qXt)⟩

set_option maxHeartbeats 3200000 in
theorem specTilesOf_c (vs : List Vw) (v : Value) (n : Int) (w : World) (lo : Nat) (hv : Vws w lo v vs) :
  Calls Try.prog 53 #[v, .int .i64 n] w (fun e w' => e = .returned (.bool (tilesB vs n)) ∧ Ext w w') := by
 obtain ⟨p0, c0, rfl⟩ := hv.form
 have hvl := hv.len
 go_enter Try.func53, Try.ntmps53
 go_wp2_with fail
 refine (validViews_c vs (.slice p0 vs.length c0) _ _ (hv.ext qXt)).mono ?_
 rintro e w1 ⟨rfl, xw1⟩
 have Lw1 : Ext w w1 := Ext.trans qXt xw1
 have Xw1 : Ext w w1 := Lw1
 have s_w1 : w.heap.size ≤ w1.heap.size := Xw1.size
 clear xw1
 cases hB1 : viewsB vs
 ·
  replace hB1 := Lib.hid hB1
  go_wp2_with fail
  go_ret
  exact ⟨by rw [show tilesB vs n = false from by unfold tilesB; rw [hB1.out]; rfl] <;> rfl, (Xw1.trans qXt)⟩
 ·
  replace hB1 := Lib.hid hB1
  obtain ⟨h8, hvs⟩ := viewsB_in hB1.out
  replace hvs := Lib.hid hvs
  go_wp2_with fail
  refine (inRange_c n 0 60 _).mono ?_
  rintro e w' ⟨rfl, rfl⟩
  cases hB2 : inB 0 60 n
  ·
   replace hB2 := Lib.hid hB2
   go_wp2_with fail
   go_ret
   exact ⟨by rw [show tilesB vs n = false from by unfold tilesB; rw [hB1.out, hB2.out]; rfl] <;> rfl, (Xw1.trans qXt)⟩
  ·
   replace hB2 := Lib.hid hB2
   have hn60 : 0 ≤ n ∧ n ≤ 60 := by have h7 := hB2.out; unfold inB at h7; simpa using h7
   have hw7 : IntKind.i64.wrap (n - 1) = n - 1 := IntWalk.i64_in _ (by omega)
   go_wp2_with fail
   have BL4 : Ext w1 w1 := Ext.refl _
   have zG_BL4 := (BL4).size
   skip
   go_loopw [5, 6] (fun gv i wr => ∃ (k : Nat), k ≤ vs.length ∧ i = .int .i64 k ∧ OwnI wr w1.heap.size gv (catV vs k) ∧ Ext w1 wr) (fun _ i _ => vs.length - (intOf i).toNat)
   case atStart => exact ⟨0, Nat.zero_le _, rfl, (by rw [show catV vs 0 = [] from rfl]; exact (OwnI.lit0 w1 w1.heap.size (Nat.le_refl _))), qXt⟩
   case round =>
    obtain ⟨k, hk, rfl, OG, Lwr⟩ := hrel
    have Xwr : Ext w wr := Xw1.trans Lwr
    have s_wr : w.heap.size ≤ wr.heap.size := Xwr.size
    have t_wr : w1.heap.size ≤ wr.heap.size := Lwr.size
    have BL4_wr : Ext w1 wr := BL4.trans Lwr
    have Bwr : Ext w1 wr := Lwr
    obtain ⟨ga6, gc7, rfl⟩ := (OG.ints (by have := (show (catV vs k).length ≤ 1000000 by have := catV_len hvs.out k hk; omega); omega)).form
    have OG5 := OG
    clear OG
    by_cases hlt : k < vs.length
    ·
     have hkI : (k : Int) < vs.length := by omega
     have hN_x8 : k < vs.length := hlt
     have hI_x8 : (k : Int) < (vs.length : Int) := by omega
     obtain ⟨bl10, ol11, u12, c14, u13, c15, rfl, x80, x81, x82, i16, i17⟩ := hv.at k hN_x8
     obtain ⟨X9, hX9⟩ : ∃ x, vwAt vs k = x := ⟨_, rfl⟩
     rw [hX9] at x80 x81 x82 i16 i17
     obtain ⟨B18, S19, T20⟩ := X9
     dsimp only at x80 x81 x82 i16 i17
     replace hX9 := Lib.hid hX9
     have hLS19 := i16.len
     have hLT20 := i17.len
     have y_x8 : bl10 < w.heap.size := qB x80
     replace x80 := Xwr.cell x80
     replace x81 := Xwr.cell x81
     replace x82 := Xwr.cell x82
     have z_x8 : bl10 < wr.heap.size := qB x80
     have hvwhX9 : Hid (viewB B18 S19 T20 = true) := Lib.hid (by have h7 := vsB_at hvs.out k hlt; rw [hX9.out] at h7; exact h7)
     go_wp2_with fail
     refine (offsets_c B18 (.slice u12 S19.length c14) (.slice u13 T20.length c15) S19 T20 _ _ _ (i16.ext (Xwr.trans qXt)) (i17.ext (Xwr.trans qXt)) (by first | omega | exact (vw hvwhX9.out).1 | exact (vw hvwhX9.out).2.1 | exact (vw hvwhX9.out).2.2.1 | exact (vw hvwhX9.out).2.2.2) (by first | omega | exact (vw hvwhX9.out).1 | exact (vw hvwhX9.out).2.1 | exact (vw hvwhX9.out).2.2.1 | exact (vw hvwhX9.out).2.2.2) (by first | omega | exact (vw hvwhX9.out).1 | exact (vw hvwhX9.out).2.1 | exact (vw hvwhX9.out).2.2.1 | exact (vw hvwhX9.out).2.2.2)).mono ?_
     rintro e w2 ⟨fv21, rfl, i22, -, xw2⟩
     have Lw2 : Ext wr w2 := Ext.trans qXt xw2
     have Xw2 : Ext w w2 := Xwr.trans Lw2
     replace x80 := Lw2.cell x80
     replace x81 := Lw2.cell x81
     replace x82 := Lw2.cell x82
     have z_x8 : bl10 < w2.heap.size := qB x80
     replace OG5 := OG5.ext Lw2
     have s_w2 : w.heap.size ≤ w2.heap.size := Xw2.size
     have BL4_w2 : Ext w1 w2 := BL4_wr.trans Lw2
     have Bwr_w2 : Ext w1 w2 := Bwr.trans Lw2
     clear xw2
     obtain ⟨afv21, cfv21, rfl⟩ := i22.form
     have zGB := (Bwr_w2).size
     have EE : Ext w2 (w2) := qXt
     have hAL : (offsL B18 S19 T20).length ≤ 1000000 := (by have := offs_len60 hvwhX9.out; omega)
     have SS : Ints (w2) 0 (.slice afv21 ((offsL B18 S19 T20).length) cfv21) (offsL B18 S19 T20) := (i22.ext EE).lower (Nat.zero_le _)
     go_wp2_with (
      at_builtin
      refine wpList_app rfl (.tmp 22) (.tmp 27) rfl rfl rfl (by exact OG5.ext EE) (by exact SS) (by have := (show (catV vs k).length ≤ 1000000 by have := catV_len hvs.out k hk; omega); first | omega | (simp only [List.length_append, List.length_cons, List.length_nil]; omega)) qSo ?_
      intro vw3 w3 ho hg7 hbl hv7
      clear hg7 hv7
      obtain ⟨ga23, rr24, rfl⟩ : ∃ a c, vw3 = .slice a ((catV vs k).length + (offsL B18 S19 T20).length) c := by obtain ⟨a, c, h⟩ := (ho.ints (by simp only [List.length_append, List.length_cons, List.length_nil]; have := (show (catV vs k).length ≤ 1000000 by have := catV_len hvs.out k hk; omega); omega)).form; exact ⟨a, c, by rw [h, List.length_append]⟩
      have Xw3 : Ext w w3 := Ext.below (Xw2.trans EE) hbl (by omega)
      have BL4_w3 : Ext w1 w3 := Ext.below (Ext.trans BL4_w2 EE) hbl (by omega)
      have Bwr_w3 : Ext w1 w3 := Ext.below (Ext.trans Bwr_w2 EE) hbl (by omega)
      clear x80 x81 x82
      clear i22
      clear OG5
      have OG5 := ho
      clear ho hbl EE SS zGB hAL
      have s_w3 : w.heap.size ≤ w3.heap.size := Xw3.size)
     go_wp2_with fail
     go_roundw
     case rel => exact ⟨k + 1, by omega, by go_num, (by rw [show catV vs (k+1) = catV vs k ++ offsL B18 S19 T20 by rw [catV_succ, hX9.out]]; exact OG5.ext qXt), (Bwr_w3.trans qXt)⟩
     case measure => simp [intOf]; omega
    ·
     obtain rfl : k = vs.length := by omega
     have hkI : ¬ (vs.length : Int) < vs.length := by omega
     go_wp2_with fail
     refine (different_c (catV vs vs.length) (.slice ga6 ((catV vs vs.length).length) gc7) _ _ ((OG5.ints (by have := catV_len hvs.out vs.length (Nat.le_refl _); omega)).ext qXt)).mono ?_
     rintro e w2 ⟨rfl, xw2⟩
     have Lw2 : Ext wr w2 := Ext.trans qXt xw2
     have Xw2 : Ext w w2 := Xwr.trans Lw2
     replace OG5 := OG5.ext Lw2
     have s_w2 : w.heap.size ≤ w2.heap.size := Xw2.size
     have BL4_w2 : Ext w1 w2 := BL4_wr.trans Lw2
     have Bwr_w2 : Ext w1 w2 := Bwr.trans Lw2
     clear xw2
     cases hB25 : decide (catV vs vs.length).Nodup
     ·
      replace hB25 := Lib.hid hB25
      go_wp2_with fail
      go_ret
      exact ⟨by rw [show tilesB vs n = false from by rw [tiles_spec hB1.out hB2.out, hB25.out]; simp] <;> rfl, (Xw2.trans qXt)⟩
     ·
      replace hB25 := Lib.hid hB25
      go_wp2_with fail
      refine (allIn_c (catV vs vs.length) (.slice ga6 ((catV vs vs.length).length) gc7) 0 (n - 1) _ _ ((OG5.ints (by have := catV_len hvs.out vs.length (Nat.le_refl _); omega)).ext qXt)).mono ?_
      rintro e w' ⟨rfl, rfl⟩
      cases hB26 : (catV vs vs.length).all (inB 0 (n - 1))
      ·
       replace hB26 := Lib.hid hB26
       go_wp2_with fail
       go_ret
       exact ⟨by rw [show tilesB vs n = false from by rw [tiles_spec hB1.out hB2.out, hB25.out, hB26.out]; simp] <;> rfl, (Xw2.trans qXt)⟩
      ·
       replace hB26 := Lib.hid hB26
       by_cases hc27 : ((catV vs vs.length).length : Int) = (n : Int)
       ·
        have hc27e : (((catV vs vs.length).length : Int) == (n : Int)) = true := by simpa using hc27
        have hc27n : (((catV vs vs.length).length : Int) != (n : Int)) = false := by simpa using hc27
        replace hc27 := Lib.hid hc27
        go_wp2_with fail
        go_ret
        exact ⟨by rw [show tilesB vs n = true from by rw [tiles_spec hB1.out hB2.out, hB25.out, hB26.out, decide_eq_true (show ((catV vs vs.length).length : Int) = n from hc27.out)]; rfl] <;> rfl, (Xw2.trans qXt)⟩
       ·
        have hc27e : (((catV vs vs.length).length : Int) == (n : Int)) = false := by simpa using hc27
        have hc27n : (((catV vs vs.length).length : Int) != (n : Int)) = true := by simpa using hc27
        replace hc27 := Lib.hid hc27
        go_wp2_with fail
        go_ret
        exact ⟨by rw [show tilesB vs n = false from by rw [tiles_spec hB1.out hB2.out, hB25.out, hB26.out, decide_eq_false (show ¬ ((catV vs vs.length).length : Int) = n from hc27.out)]; simp] <;> rfl, (Xw2.trans qXt)⟩


end Go.Proofs.Ytfbbnbpobojboaa

/- FnExactTilesOf returns true for all views and sizes: no condition. -/
namespace Go.Proofs.Ytfbbnbpobojboaa
open Go.RowKit
set_option linter.unusedVariables false
set_option maxRecDepth 100000

set_option maxHeartbeats 3200000 in
theorem lawTilesOf_1 (vs : List Vw) (v : Value) (n : Int) (w : World) (hv : RawV w v vs) (hm : vs.length ≤ maxLen) (o : Bool) (ho : Hid (tilesB vs n = o)) :
    Calls Try.prog 11 #[v, .int .i64 n] w fun e w' => e = .returned (.bool true) ∧ Ext w w' := by
  go_enter Try.func11, Try.ntmps11
  go_wp2_with fail
  refine (szViewS_c vs v 1048576 _ (hv.ext qXt) (by omega) (by omega) hm).mono ?_
  rintro e w1 ⟨L, rfl, q1, q2, q3, x1⟩
  have X1 : Ext w w1 := Ext.trans qXt x1
  replace x1 := Lib.hid x1
  by_cases hL : L < 0
  · go_wp2_with fail
    go_ret
    exact ⟨rfl, X1⟩
  · have hq := q3 (by omega)
    have hl : vs.length ≤ 1048576 := by omega
    have hr : ∀ i, i < vs.length → (vwAt vs i).s.length ≤ 1048576 ∧ (vwAt vs i).t.length ≤ 1048576 := fun i hi => by have := sizeV_le vs i vs.length hi; omega
    replace hr := Lib.hid hr
    replace hv := Lib.hid hv
    clear q3 hq
    go_wp2_with fail
    refine (toViewS_c vs v _ (hv.out.ext X1) hl hr.out).mono ?_
    rintro e w2 ⟨a1, rfl, r1, x2⟩
    have X2 : Ext w w2 := X1.trans (Ext.trans qXt x2)
    replace x2 := Lib.hid x2
    replace r1 := Lib.hid r1
    go_wp2_with fail
    refine (specTilesOf_c vs a1 n _ _ (r1.out.ext qXt)).mono ?_
    rintro e w3 ⟨rfl, x3⟩
    rw [ho.out]
    have X3 : Ext w w3 := X2.trans (Ext.trans qXt x3)
    replace x3 := Lib.hid x3
    clear r1
    go_wp2_with fail
    refine (toViewS_c vs v _ (hv.out.ext X3) hl hr.out).mono ?_
    rintro e w4 ⟨a2, rfl, r2, x4⟩
    have X4 : Ext w w4 := X3.trans (Ext.trans qXt x4)
    replace x4 := Lib.hid x4
    replace r2 := Lib.hid r2
    go_wp2_with fail
    refine (implTilesOf_c vs a2 n _ _ (r2.out.ext qXt)).mono ?_
    rintro e w5 ⟨rfl, x5⟩
    rw [ho.out]
    have E5 : Ext w4 w5 := Ext.trans qXt x5
    have X5 : Ext w w5 := X4.trans E5
    replace x5 := Lib.hid x5
    cases o
    · go_wp2_with fail
      refine (toViewS_c vs v _ (hv.out.ext X5) hl hr.out).mono ?_
      rintro e w6 ⟨a3, rfl, r3, x6⟩
      have E6 : Ext w5 w6 := Ext.trans qXt x6
      have X6 : Ext w w6 := X5.trans E6
      replace x6 := Lib.hid x6
      replace r3 := Lib.hid r3
      go_wp2_with fail
      refine (eqViewS_c vs a2 a3 _ _ _ ((r2.out.ext E5).ext E6) (r3.out.ext qXt)).mono ?_
      rintro e w7 ⟨rfl, x7⟩
      have X7 : Ext w w7 := X6.trans (Ext.trans qXt x7)
      go_wp2_with fail
      go_ret
      exact ⟨rfl, X7⟩
    · go_wp2_with fail
      refine (toViewS_c vs v _ (hv.out.ext X5) hl hr.out).mono ?_
      rintro e w6 ⟨a3, rfl, r3, x6⟩
      have E6 : Ext w5 w6 := Ext.trans qXt x6
      have X6 : Ext w w6 := X5.trans E6
      replace x6 := Lib.hid x6
      replace r3 := Lib.hid r3
      go_wp2_with fail
      refine (eqViewS_c vs a2 a3 _ _ _ ((r2.out.ext E5).ext E6) (r3.out.ext qXt)).mono ?_
      rintro e w7 ⟨rfl, x7⟩
      have X7 : Ext w w7 := X6.trans (Ext.trans qXt x7)
      go_wp2_with fail
      go_ret
      exact ⟨rfl, X7⟩
theorem lawTilesOf_c (vs : List Vw) (v : Value) (n : Int) (w : World) (hv : RawV w v vs) (hm : vs.length ≤ maxLen) (wf : (Lit.int .i64 n).wf = true) :
    Calls Try.prog 11 #[v, .int .i64 n] w fun e w' => e = .returned (.bool true) ∧ Ext w w' :=
  lawTilesOf_1 vs v n w hv hm _ (Lib.hid rfl)
end Go.Proofs.Ytfbbnbpobojboaa

/- The law FnExactTilesOf holds for all arguments: the call returns true, and its arguments read as they did. No condition. -/
namespace Go.Proofs.Ytfbbnbpobojboaa.rowTilesOf
open Go.ChangeShapes Go.WideShapes Go.ChangeAt Go.RowKit
set_option linter.unusedVariables false

set_option maxHeartbeats 1000000 in
set_option maxRecDepth 100000 in
theorem lifted (os : Os) (started : os.Started) (H : Type) (enc : TypeId × Value → H) :
    ReturnsInHanded {} Try.checked os 11 .any (Rows.fnExactTilesOfSpec.pre6 enc Try.prog Try.f11 Rows.fnExactTilesOfRow.domain false) (Rows.fnExactTilesOfSpec.post enc Try.prog Try.f11 false true false false) := by
  refine returnsInHanded_of_change (C := Try.checked) own started qKr Try.func11
    (ChangeSpec.witness6 (enc := enc) (C := Try.checked) false ⟨#[], #[.slice none 0 0, .int .i64 0], []⟩ 8 qKr qKr qKr qKr) ?_
  intro W base args ds gs before hval0 hW hcnd _
  have hval : ∀ (j : Nat) t v, Try.f11.params[j]? = some t → args[j]? = some v → Value.okWide Try.prog W .any base t v := hval0
  have hW' := hW
  obtain ⟨p, q, hA0, hV, rfl, hfz, hnd⟩ := hW
  have hA : DataW.TrodAll enc Try.prog W 0 (fun _ => true) true Try.f11.params.toList args.toList ds p := hA0
  rw [Try.params11] at hA hval
  obtain ⟨v0, vs0, d0, ds0, p0, q0, hargs0, rfl, rfl, h0, r0⟩ := trodAll_cons hA
  obtain ⟨v1, vs1, d1, ds1, p1, q1, hargs1, rfl, rfl, h1, r1⟩ := trodAll_cons r0
  subst hargs1
  obtain ⟨rfl, rfl, rfl⟩ := trodAll_nil r1
  obtain rfl : args = #[v0, v1] := by cases args; simp_all
  obtain ⟨rfl, rfl⟩ := trodVars_none hV
  have k0 := h0
  have lt0 : ∀ x ∈ p0, x.block < W.heap.size := by obtain ⟨m, hm⟩ := k0; exact DataW.trod_lt m _ _ _ hm
  have hc0 : v0.cells.toList = [v0] := by obtain ⟨_, _, _, rfl⟩ := okWide_slice Try.underlying71 (hval 0 _ v0 rfl rfl); rfl
  obtain ⟨m0, hm0⟩ := h0
  rw [hc0] at hm0
  obtain ⟨rs0, hs0, hn0⟩ := open_rawV hm0
  have k1 := h1
  have lt1 : ∀ x ∈ p1, x.block < W.heap.size := by obtain ⟨m, hm⟩ := k1; exact DataW.trod_lt m _ _ _ hm
  obtain ⟨i1, rfl, -, -, wf1⟩ := open_int Try.underlying3 (hval 1 _ v1 rfl rfl) h1
  clear hA0 hval0
  refine (lawTilesOf_c rs0 v0 i1 W hs0 hn0 wf1).mono fun e W' ⟨he, bel⟩ => ?_
  subst he
  exact ⟨_, rfl, _, _, _, [], _, [], hW', trodAll_mk1 (shut_bool Try.underlying4 _), (trodAll_cons_mk (Below.trod laidOut qKr (of_decide_eq_true qKr) k0 bel lt0) (trodAll_cons_mk (Below.trod laidOut qKr (of_decide_eq_true qKr) k1 bel lt1) trodAll_mk0)), rfl, Below.frame bel _, fun h => by cases h⟩

set_option maxHeartbeats 2000000 in
theorem closed : joinedFacts Try.checked.prog 11 Try.f11 Rows.fnExactTilesOfSpec Rows.fnExactTilesOfRow = true :=
  facts.all qKr qKr qKr qKr qKr (by as_aux_lemma => kernel_rfl) (by as_aux_lemma => kernel_rfl) (by as_aux_lemma => kernel_rfl) (by as_aux_lemma => kernel_rfl)
    (by as_aux_lemma => kernel_rfl) (by as_aux_lemma => kernel_rfl) rfl rfl rfl rfl qKr qKr (by as_aux_lemma => kernel_rfl) (by as_aux_lemma => kernel_rfl)

theorem named : Try.pinned.checked.prog.funcNamed Rows.fnExactTilesOfRow.func = some 11 := by kernel_rfl

theorem over : Rows.fnExactTilesOfRow.holds Try.pinned (OpenSpec.ofChange Rows.fnExactTilesOfSpec) :=
  OpenClaim.holds_of_wide 11 Try.f11 rfl rfl rfl rfl rfl rfl rfl ⟨rfl, rfl, rfl, rfl, rfl⟩ rfl rfl rfl rfl rfl named Try.func11 closed
    (of_decide_eq_true qKr) (by unfold Func.isWrapper; exact ⟨rfl, rfl⟩)
    (fun os started H enc _ => lifted os started H enc)

theorem proved : Rows.FnExactTilesOfSaid := over

end Go.Proofs.Ytfbbnbpobojboaa.rowTilesOf
