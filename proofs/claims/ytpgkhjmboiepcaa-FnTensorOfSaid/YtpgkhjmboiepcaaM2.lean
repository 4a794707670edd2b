/- Texts of these proofs put together: RgL, Kit, SvE, SvF, SvG, SvD, SvH, KitB. No condition. -/
import Derived.Deep.RegionHeld3
import Derived.WalkKit
import Derived.Test.YtpgkhjmboiepcaaM1
import Derived.Deep.DeepCutAuto
import Derived.StillTailTactics
set_option linter.unusedVariables false
set_option linter.unusedSimpArgs false
/- A region that draws its order, some reads taken first under a condition on the world, which need not last behind the operations that wait for all those reads (a store to a cell that is read). No condition. -/
namespace Go.Proofs.Ytpgkhjmboiepcaa
open Go
set_option linter.unusedVariables false
section
variable {P : Program} {ops : Array Oper} {Q : Exit → Act → World → Prop} {md : Region.Mode} {S : World → Prop} {tl : Nat → Bool}

/-- whatever order is picked; the condition holds behind each operation but those of tl -/
def wpTail (P : Program) (md : Region.Mode) (ops : Array Oper) (Q : Exit → Act → World → Prop) (S : World → Prop) (tl : Nat → Bool) : Nat → Array Bool → Act → World → Prop
  | 0, listed, a, w => Region.ready md ops listed = [] ∧ Q .normal a w
  | n + 1, listed, a, w =>
    (Region.ready md ops listed = [] → Q .normal a w) ∧
    ∀ i ∈ Region.ready md ops listed, wpOp P ops Q i (fun a' w' => (tl i = false → S w') ∧ wpTail P md ops Q S tl n (listed.setIfInBounds i true) a' w') a w

theorem wpTail.any : ∀ (n : Nat) (listed : Array Bool) (a : Act) (w : World), wpTail P md ops Q S tl n listed a w → wpAny P md ops Q n listed a w
  | 0, _, _, _, h => h
  | n + 1, _, _, _, h => ⟨h.1, fun i hi => wpOp_mono (fun a' w' h' => wpTail.any n _ a' w' h'.2) (h.2 i hi)⟩

/-- what waits for i -/
def waitsB (md : Region.Mode) (ops : Array Oper) (tl : Nat → Bool) (i : Nat) : Bool :=
  (List.range ops.size).all fun j => !tl j || (match ops[j]? with | some o => o.after.toList.any fun e => Region.binds md e && e.on == i | none => true)

theorem wpTail.first {i : Nat} {oi : Oper} {v : Value} (hi : ops[i]? = some oi) (hsel : ∀ (j : Nat) (o : Oper) cs b, ops[j]? = some o → o.op ≠ .select cs b)
    (hQ : ∀ c a w, Q (.panic c) (a.put oi.dst v) w → Q (.panic c) a w) (hti : tl i = false) (hwt : waitsB md ops tl i = true) :
    ∀ (n : Nat) (listed : Array Bool) (a : Act) (w : World),
      (∀ j oj, ops[j]? = some oj → j ≠ i → listed.getD j true = false → (∀ e ∈ oj.after, Region.binds md e = true → e.on ≠ i) → oi.apart ops oj = true) →
      i ∈ Region.ready md ops listed → YieldsIf P ops S oi v a → S w →
      wpTail P md ops Q S tl n (listed.setIfInBounds i true) (a.put oi.dst v) w → wpTail P md ops Q S tl (n + 1) listed a w := by
  intro n
  induction n with
  | zero =>
    intro listed a w _ hr hy hS H
    refine ⟨fun h => (by rw [h] at hr; cases hr), fun j hj => ?_⟩
    by_cases hji : j = i
    · subst hji; exact hy.wpOp hi hS ⟨fun _ => hS, H⟩
    · have h0 := ready_mono hj hji
      rw [H.1] at h0
      cases h0
  | succ n ih =>
    intro listed a w hfree hr hy hS H
    refine ⟨fun h => (by rw [h] at hr; cases hr), fun j hj => ?_⟩
    by_cases hji : j = i
    · subst hji; exact hy.wpOp hi hS ⟨fun _ => hS, H⟩
    · have h1 := H.2 j (ready_mono hj hji)
      obtain ⟨hjun, oj, hoj, hall⟩ := mem_ready.1 hj
      have hnot : ∀ e ∈ oj.after, Region.binds md e = true → e.on ≠ i := fun e he hb heq => by
        have h3 := hall e he hb
        have h4 := (mem_ready.1 hr).1
        rw [heq] at h3
        rcases Nat.lt_or_ge i listed.size with h' | h'
        · simp [h'] at h3 h4; rw [h4] at h3; cases h3
        · simp [Array.getElem?_eq_none h'] at h3
      have htj : tl j = false := by
        cases ht : tl j with
        | false => rfl
        | true =>
          have hlt := (Array.getElem?_eq_some_iff.1 hoj).1
          unfold waitsB at hwt
          rw [List.all_eq_true] at hwt
          have h5 := hwt j (List.mem_range.2 hlt)
          rw [ht, hoj] at h5
          simp only [Bool.not_true, Bool.false_or, List.any_eq_true, Bool.and_eq_true, beq_iff_eq] at h5
          obtain ⟨e, he, hb, hon⟩ := h5
          exact absurd hon (hnot e (by simpa using he) hb)
      have h2 := wpOp_putIf hoj (hfree j oj hoj hji hjun hnot) (fun cs b => hsel i oi cs b hi) (fun cs b => hsel j oj cs b hoj) hQ hy h1
      have hfree' : ∀ k ok, ops[k]? = some ok → k ≠ i → (listed.setIfInBounds j true).getD k true = false →
          (∀ e ∈ ok.after, Region.binds md e = true → e.on ≠ i) → oi.apart ops ok = true := fun k ok hk hki hun hno => by
        refine hfree k ok hk hki ?_ hno
        by_cases hjk : j = k
        · subst hjk; exact hjun
        · rw [getD_set_ne true hjk] at hun; exact hun
      refine wpOp_mono (fun a' w' h3 => ⟨h3.2.1, ih (listed.setIfInBounds j true) a' w' hfree' (ready_mono hr (Ne.symm hji)) h3.1 (h3.2.1 htj) ?_⟩) h2
      rw [Array.setIfInBounds_comm _ _ hji]
      exact h3.2.2

theorem wpTail_take {i : Nat} {oi : Oper} {v : Value} {n : Nat} {listed : Array Bool} {a : Act} {w : World} (hi : ops[i]? = some oi)
    (hs : Region.noSelect ops = true) (hf : Region.free md ops listed i = true) (hr : (Region.ready md ops listed).contains i = true) (hti : tl i = false) (hwt : waitsB md ops tl i = true)
    (hQ : ∀ c a w, Q (.panic c) (a.put oi.dst v) w → Q (.panic c) a w) (hy : YieldsIf P ops S oi v a) (hS : S w)
    (h : wpTail P md ops Q S tl n (listed.setIfInBounds i true) (a.put oi.dst v) w) : wpTail P md ops Q S tl (n + 1) listed a w :=
  wpTail.first hi (Region.noSelect_spec hs) hQ hti hwt n listed a w (Region.free_spec hi hf) (by simpa using hr) hy hS h

theorem qTk {oi : Oper} {v : Value} {n : Nat} {listed : Array Bool} {a : Act} {w : World} (i : Nat) (hi : ops[i]? = some oi) (hy : YieldsIf P ops S oi v a)
    (h : wpTail P md ops Q S tl n (listed.setIfInBounds i true) (a.put oi.dst v) w)
    (hs : Region.noSelect ops = true := by kernel_rfl) (hf : Region.free md ops listed i = true := by kernel_rfl) (hr : (Region.ready md ops listed).contains i = true := by kernel_rfl) (hti : tl i = false := by rfl) (hwt : waitsB md ops tl i = true := by kernel_rfl)
    (hQ : ∀ c a w, Q (.panic c) (a.put oi.dst v) w → Q (.panic c) a w := by exact fun _ _ _ h => h) (hS : S w := by assumption) :
    wpTail P md ops Q S tl (n + 1) listed a w := wpTail_take hi hs hf hr hti hwt hQ hy hS h
theorem qTs {oi : Oper} {n : Nat} {listed : Array Bool} {a : Act} {w : World} (i : Nat) (hi : ops[i]? = some oi) (hy : YieldsIf P ops S oi undef a)
    (h : wpTail P md ops Q S tl n (listed.setIfInBounds i true) (a.put oi.dst undef) w)
    (hs : Region.noSelect ops = true := by kernel_rfl) (hf : Region.free md ops listed i = true := by kernel_rfl) (hr : (Region.ready md ops listed).contains i = true := by kernel_rfl) (hti : tl i = false := by rfl) (hwt : waitsB md ops tl i = true := by kernel_rfl)
    (hQ : ∀ c a w, Q (.panic c) (a.put oi.dst undef) w → Q (.panic c) a w := by exact fun _ _ _ h => h) (hS : S w := by assumption) :
    wpTail P md ops Q S tl (n + 1) listed a w := wpTail_take hi hs hf hr hti hwt hQ hy hS h

/-- one operation comes up, and no other can -/
theorem wpTail_one {i : Nat} {o : Oper} {n : Nat} {listed : Array Bool} {a : Act} {w : World} (hr : Region.ready md ops listed = [i]) (ho : ops[i]? = some o) (ht : tl i = false)
    (h : ∀ K' : Act → World → Prop, Shut (∀ a w, S w → (S w → wpTail P md ops Q S tl n (listed.setIfInBounds i true) a w) → K' a w) → if Region.wanted o (yielded ops a.tmps) = true then Oper.wp P o a w K' Q else K' (a.put o.dst undef) w) :
    wpTail P md ops Q S tl (n + 1) listed a w := by
  refine ⟨fun h0 => (by rw [h0] at hr; cases hr), ?_⟩
  rw [hr]
  intro j hj
  obtain rfl : j = i := by simpa using hj
  exact wpOp_step ho (fun K' hK => h K' (fun a w hS hW => hK a w ⟨fun _ => hS, hW hS⟩))
/-- an operation that the condition need not outlast comes up, and no other can -/
theorem wpTail_last {i : Nat} {o : Oper} {n : Nat} {listed : Array Bool} {a : Act} {w : World} (hr : Region.ready md ops listed = [i]) (ho : ops[i]? = some o) (ht : tl i = true)
    (h : ∀ K' : Act → World → Prop, Shut (∀ a w, wpTail P md ops Q S tl n (listed.setIfInBounds i true) a w → K' a w) → if Region.wanted o (yielded ops a.tmps) = true then Oper.wp P o a w K' Q else K' (a.put o.dst undef) w) :
    wpTail P md ops Q S tl (n + 1) listed a w := by
  refine ⟨fun h0 => (by rw [h0] at hr; cases hr), ?_⟩
  rw [hr]
  intro j hj
  obtain rfl : j = i := by simpa using hj
  exact wpOp_step ho (fun K' hK => h K' (fun a w hW => hK a w ⟨(fun h => (by rw [ht] at h; cases h)), hW⟩))
theorem wpTail_done {listed : Array Bool} {a : Act} {w : World} (hr : Region.ready md ops listed = []) (h : Q .normal a w) : ∀ n, wpTail P md ops Q S tl n listed a w
  | 0 => ⟨hr, h⟩
  | _ + 1 => ⟨fun _ => h, by rw [hr]; simp⟩
theorem wp_region_tail {id : Nat} {a : Act} {w : World} (tl : Nat → Bool) (hm : P.follows .mixedOrders = true) (hS : S w.drew)
    (h : S w.drew → wpTail P .any ops Q S tl ops.size (Array.replicate ops.size false) a w.drew) : (Code.region id ops true).wp P Q a w :=
  wp_region_any hm (wpTail.any _ _ _ _ (h hS))
end
end Go.Proofs.Ytpgkhjmboiepcaa

/- Words for walks: rows beside changed blocks, where elements lie, normal ranges. No condition. -/
namespace Go.Proofs.Ytpgkhjmboiepcaa
open Go.RowKit
set_option linter.unusedVariables false
set_option maxRecDepth 100000

theorem Chg.frzO {lo hi : Nat} {w w' : World} (k : Chg lo hi w w') {b o : Nat} {f : Bool} (hd : b < lo ∨ hi ≤ b) (hb : b < w.heap.size) (hf : w.frozen? ⟨b, o, none⟩ = f) : w'.frozen? ⟨b, o, none⟩ = f :=
  (World.frozen?_of_block (a := ⟨b, o, none⟩) (k.block b hb hd)).trans hf
theorem OwnI.chgN {lo hi base g n c : Nat} {w w' : World} {xs : List Int} (h : OwnI w base (.slice (some ⟨g, 0, none⟩) n c) xs) (k : Chg lo hi w w') (hd : g < lo ∨ hi ≤ g) : OwnI w' base (.slice (some ⟨g, 0, none⟩) n c) xs := by
  refine ⟨h.1, ?_⟩
  rcases h.2 with ⟨h2, _⟩ | ⟨g', cap, cur, hv, hg, hh, r⟩
  · cases h2
  · cases hv
    exact .inr ⟨g, _, cur, rfl, hg, (k.block g (Array.getElem?_eq_some_iff.1 hh).1 hd).trans hh, r⟩
theorem OwnI.set {base g n c : Nat} {w : World} {xs : List Int} (h : OwnI w base (.slice (some ⟨g, 0, none⟩) n c) xs) (i : Nat) (x : Int) (hi : i < xs.length) : OwnI (w.setCell ⟨g, i, none⟩ (.int .i64 x)) base (.slice (some ⟨g, 0, none⟩) n c) (xs.set i x) := by
  have hn : n = xs.length := by
    rcases h.2 with ⟨h2, _⟩ | ⟨g', cap, cur, hv, _⟩
    · cases h2
    · cases hv; rfl
  subst hn
  unfold OwnI
  rw [List.length_set]
  exact own_set h i x hi
theorem OwnI.setD {base g n c : Nat} {w : World} {xs : List Int} (h : OwnI w base (.slice (some ⟨g, 0, none⟩) n c) xs) (i : Nat) (x : Int) (hi : i < xs.length) : OwnI (w.setCell ⟨g, i, none⟩ (.int .i64 x)).drew base (.slice (some ⟨g, 0, none⟩) n c) (xs.set i x) :=
  (OwnI.set h i x hi).ext (Ext.drew (Ext.refl _))
theorem OwnI.cell {base g n c : Nat} {w : World} {xs : List Int} (h : OwnI w base (.slice (some ⟨g, 0, none⟩) n c) xs) (i : Nat) (hi : i < xs.length) : w.cell? ⟨g, i, none⟩ = some (.int .i64 (xs.getD i 0)) ∧ w.frozen? ⟨g, i, none⟩ = false := by
  have hn : n = xs.length := by
    rcases h.2 with ⟨h2, _⟩ | ⟨g', cap, cur, hv, _⟩
    · cases h2
    · cases hv; rfl
  subst hn
  exact own_cell h i hi
theorem OwnI.len {base g n c : Nat} {w : World} {xs : List Int} (h : OwnI w base (.slice (some ⟨g, 0, none⟩) n c) xs) (hn : n ≤ 4194304 := by omega) : xs.length ≤ 4194304 := by
  rcases h.2 with ⟨h2, _⟩ | ⟨g', cap, cur, hv, _⟩
  · cases h2
  · cases hv; exact hn
theorem OwnI.any {base : Nat} {w : World} {v : Value} {xs : List Int} (h : OwnI w base v xs) : ∃ a n c, v = .slice a n c := by
  rcases h.2 with ⟨rfl, _⟩ | ⟨g', cap, cur, rfl, _⟩
  · exact ⟨_, _, _, rfl⟩
  · exact ⟨_, _, _, rfl⟩
theorem Ints.any {lo : Nat} {w : World} {v : Value} {xs : List Int} (h : Ints w lo v xs) : ∃ a n c, v = .slice a n c := by
  obtain ⟨a, c, rfl, _⟩ := h
  exact ⟨_, _, _, rfl⟩
theorem chg_grown {w w' : World} {o : Obj} {g : Nat} (hg : (w.alloc o).grownBy w' (some g)) : Chg g (g + 1) w w' :=
  ⟨hg.os, hg.tape, hg.output, by have := hg.size; simp at this; omega, fun k hk hd => by
    have h1 := hg.block k (by simp; omega) (by simp; omega)
    rw [h1]
    have := ((Ext.refl w).alloc o).block k hk
    exact this⟩
theorem below_frz {B : Nat} {w w' : World} (h : Below B w w') {b o : Nat} {f : Bool} (hb : b < B) (hc : w.frozen? ⟨b, o, none⟩ = f) : w'.frozen? ⟨b, o, none⟩ = f :=
  (Below.frozen (p := ⟨b, o, none⟩) h hb).trans hc
/-- two rows of ints side by side -/
structure Two (B : Nat) (wr : World) (v1 v2 : Value) (xs ys : List Int) : Prop where
  o1 : OwnI wr B v1 xs
  o2 : OwnI wr B v2 ys
  sep : ∀ g, v1.ownBlock = some g → v2.ownBlock ≠ some g
  size : B ≤ wr.heap.size
theorem Two.nil {B : Nat} {w : World} (h : B ≤ w.heap.size) : Two B w (.slice none 0 0) (.slice none 0 0) [] [] := ⟨OwnI.nil _ _, OwnI.nil _ _, (fun g h => (by cases h)), h⟩
theorem Two.ext {B : Nat} {w w' : World} {v1 v2 : Value} {xs ys : List Int} (h : Two B w v1 v2 xs ys) (hx : Ext w w') : Two B w' v1 v2 xs ys := ⟨h.o1.ext hx, h.o2.ext hx, h.sep, Nat.le_trans h.size hx.size⟩
theorem Two.chg {B lo hi : Nat} {w w' : World} {v1 v2 : Value} {xs ys : List Int} (h : Two B w v1 v2 xs ys) (k : Chg lo hi w w') (hb : hi ≤ B) : Two B w' v1 v2 xs ys := ⟨h.o1.chg k hb, h.o2.chg k hb, h.sep, Nat.le_trans h.size k.size⟩
theorem own_lt {B : Nat} {w : World} {v : Value} {xs : List Int} (h : OwnI w B v xs) {g : Nat} (hg : v.ownBlock = some g) : B ≤ g ∧ g < w.heap.size := by
  rcases h.2 with ⟨rfl, _⟩ | ⟨g', cap, cur, rfl, hb, hh, _⟩
  · cases hg
  · cases hg; exact ⟨hb, (Array.getElem?_eq_some_iff.1 hh).1⟩
theorem Two.app1 {B : Nat} {w w' : World} {v1 v2 v' : Value} {xs ys zs : List Int} (h : Two B w v1 v2 xs ys) (ho : OwnI w' B v' zs) (hg : w.grownBy w' v1.ownBlock) (hv : v'.ownBlock = v1.ownBlock ∨ v'.ownBlock = some w.heap.size) : Two B w' v' v2 zs ys := by
  have hs2 : ∀ g, v2.ownBlock = some g → B ≤ g ∧ g < w.heap.size := fun g h2 => own_lt h.o2 h2
  refine ⟨ho, h.o2.kept hg ?_, fun g hg' h2 => ?_, Nat.le_trans h.size hg.size⟩
  · cases h2 : v2.ownBlock with
    | none => exact .inl rfl
    | some g => exact .inr fun h3 => h.sep g h3.symm h2
  · rcases hv with hv | hv
    · exact h.sep g (hv ▸ hg') h2
    · rw [hv] at hg'; cases hg'; have := (hs2 _ h2).2; omega
theorem Two.swap {B : Nat} {w : World} {v1 v2 : Value} {xs ys : List Int} (h : Two B w v1 v2 xs ys) : Two B w v2 v1 ys xs := ⟨h.o2, h.o1, fun g h2 h1 => h.sep g h1 h2, h.size⟩
theorem Two.app2 {B : Nat} {w w' : World} {v1 v2 v' : Value} {xs ys zs : List Int} (h : Two B w v1 v2 xs ys) (ho : OwnI w' B v' zs) (hg : w.grownBy w' v2.ownBlock) (hv : v'.ownBlock = v2.ownBlock ∨ v'.ownBlock = some w.heap.size) : Two B w' v1 v' xs zs := (h.swap.app1 ho hg hv).swap

/-- the normal range of a few numbers is small -/
theorem normL_bd {L : List Int} (h : ∀ x ∈ L, -500 ≤ x ∧ x ≤ 500) : (-1000 ≤ (normL L).1 ∧ (normL L).1 ≤ 1000) ∧ (-1000 ≤ (normL L).2.1 ∧ (normL L).2.1 ≤ 1000) ∧ (-1000 ≤ (normL L).2.2 ∧ (normL L).2.2 ≤ 1000) ∧ (L.Nodup → (normL L).2.2 ≠ 0) := by
  match L, h with
  | [], _ => simp [normL]
  | [x], h => have := h x (by simp); simp [normL]; omega
  | x :: y :: r, h =>
    have h1 := h x (by simp)
    have h2 := h y (by simp)
    have h3 := h ((y :: r).getLast (by simp)) (List.mem_cons_of_mem _ (List.getLast_mem _))
    simp only [normL]
    refine ⟨by omega, by split <;> omega, by omega, fun hn => ?_⟩
    have : x ≠ y := by
      intro he; subst he
      have := (List.nodup_cons.1 hn).1
      exact this (List.mem_cons_self ..)
    omega

theorem mul_bdS {x t : Int} (h : -1000 ≤ x ∧ x ≤ 1000) (k : -60 ≤ t ∧ t ≤ 60) : -60000 ≤ x * t ∧ x * t ≤ 60000 := by
  rcases Int.le_total 0 t with ht | ht
  · have a1 := Int.mul_le_mul_of_nonneg_right h.2 ht
    have a2 := Int.mul_le_mul_of_nonneg_right h.1 ht
    omega
  · have a1 := Int.mul_le_mul_of_nonpos_right h.2 ht
    have a2 := Int.mul_le_mul_of_nonpos_right h.1 ht
    omega

end Go.Proofs.Ytpgkhjmboiepcaa

/- Walks: cutDim of the reference. -/
namespace Go.Proofs.Ytpgkhjmboiepcaa
open Go.RowKit
set_option linter.unusedVariables false
set_option maxRecDepth 100000


theorem PView.own {w w' : World} {base : Int} {shape strides : List Int} {v1 v2 : Value} (o1 : OwnZ w' w.heap.size v1 shape) (o2 : OwnZ w' w.heap.size v2 strides) (hd : shape ≠ [] → strides ≠ [] → v1.ownBlock ≠ v2.ownBlock) (l1 : shape.length ≤ 4194304) (l2 : strides.length ≤ 4194304) (hx : Ext w w') :
  PView w base shape strides (.returned (.agg #[.int .i64 base, v1, v2])) w' := ⟨v1, v2, rfl, o1.ints l1, o2.ints l2, o1, o2, hd, hx⟩

set_option maxHeartbeats 6400000 in
theorem cutDim_c (b1 : Int) (u1 v1 : Value) (s1 t1 : List Int) (d : Nat) (F T B : Int) (hf ht : Bool) (L : List Int) (w : World) (l1 m1 : Nat) (h1 : Ints w l1 u1 s1) (k1 : Ints w m1 v1 t1) (ha : viewB b1 s1 t1 = true) (hd : d < s1.length) (hs : sliceB F T B hf ht = true) (hL : idxS (s1.getD d 0) F T B hf ht = L) :
  Calls Try.prog 146 #[.agg #[.int .i64 b1, u1, v1], .int .i64 (d : Int), .agg #[.int .i64 F, .int .i64 T, .int .i64 B, .bool hf, .bool ht]] w (PView w (cutB b1 s1 t1 d L) (cutS s1 d L) (cutT s1 t1 d L)) := by
 have hlen1 := ints_len h1
 have hlen2 := ints_len k1
 obtain ⟨j1, j2, j3, j4, -⟩ := viewB_in ha
 have hd2 : d < t1.length := by omega
 have hin := Lib.hid j1
 have hst := Lib.hid j4
 have hsl := Lib.hid hs
 have hj2 := Lib.hid j2
 have hdI : (d : Int) < s1.length := by omega
 have hdI2 : (d : Int) < t1.length := by omega
 have hd0 : (0 : Int) ≤ d := by omega
 have hn60 : 0 ≤ s1.getD d 0 ∧ s1.getD d 0 ≤ 60 := (shapeB_in j1).2.1 _ (getD_mem hd)
 have hx60 : -60 ≤ t1.getD d 0 ∧ t1.getD d 0 ≤ 60 := j4 _ (getD_mem hd2)
 have hLI := Lib.hid hL
 have hLm : ∀ x ∈ L, 0 ≤ x ∧ x ≤ 60 := fun x hx => by rw [← hL] at hx; have := idxS_in hn60.1 (sliceB_in hs).2.2.2 x hx; omega
 have hLb : Hid (∀ x ∈ L, -1000000 ≤ x ∧ x ≤ 1000000) := Lib.hid (fun x hx => by have := hLm x hx; omega)
 obtain ⟨q1, q2, q3, q4⟩ := normL_bd (L := L) (fun x hx => by have := hLm x hx; omega)
 have q5 := q4 (by rw [← hL]; exact numL_nodup (sliceB_in hs).2.2.2)
 have hN : Hid (numL (normL L).1 (normL L).2.1 (normL L).2.2 = L) := Lib.hid (by rw [← hL]; exact norm_numL (sliceB_in hs).2.2.2)
 have hnum : Hid (∀ W, Calls Try.prog 157 #[.agg #[.int .i64 (normL L).1, .int .i64 (normL L).2.1, .int .i64 (normL L).2.2]] W (PInts W L)) := Lib.hid (fun W => by have := numbers_c (normL L).1 (normL L).2.1 (normL L).2.2 W q1 q2 q3 q5; rwa [hN.out] at this)
 have hAx : -60000 ≤ (normL L).1 * t1.getD d 0 ∧ (normL L).1 * t1.getD d 0 ≤ 60000 := mul_bdS q1 hx60
 have hCx : -60000 ≤ (normL L).2.2 * t1.getD d 0 ∧ (normL L).2.2 * t1.getD d 0 ≤ 60000 := mul_bdS q3 hx60
 have hne1 : s1 ≠ [] := fun h => by rw [h] at hd; simp at hd
 have hne2 : t1 ≠ [] := fun h => by rw [h] at hd2; simp at hd2
 have hLl : L.length ≤ 60 := by
  rcases num_len_le (sliceB_in hs).2.2.2 (idxS_in hn60.1 (sliceB_in hs).2.2.2) with h | h <;> (rw [← idxS, hL] at h; omega)
 clear ha j1 j2 j4 hs hL hLm q4 q5 hN
 obtain ⟨a1, cp1, rfl⟩ := h1.form
 obtain ⟨a2, cp2, rfl⟩ := k1.form
 obtain ⟨b1s, o1s, rfl, hc1⟩ := h1.at d hd
 obtain ⟨b2s, o2s, rfl, hc2⟩ := k1.at d hd2
 generalize hg : s1.getD d 0 = n at *
 replace hg := Lib.hid hg
 generalize hg2 : t1.getD d 0 = x at *
 replace hg2 := Lib.hid hg2
 have hnorm : ∀ (v : Value) (W : World) (lo : Nat), Ints W lo v L → Calls Try.prog 155 #[v] W (fun e w' => e = .returned (.agg #[.int .i64 (normL L).1, .int .i64 (normL L).2.1, .int .i64 (normL L).2.2]) ∧ Ext W w') := fun v W lo h => normal_c L v W lo h hLb.out
 generalize hN1 : (normL L).1 = A at *
 generalize hN2 : (normL L).2.1 = A2 at *
 generalize hN3 : (normL L).2.2 = A3 at *
 replace hnorm := Lib.hid hnorm
 replace hN1 := Lib.hid hN1
 replace hN2 := Lib.hid hN2
 replace hN3 := Lib.hid hN3
 have z_ea : b1s < w.heap.size := qB hc1
 have ea0 := hc1
 have y_ea := z_ea
 have z_eb : b2s < w.heap.size := qB hc2
 have eb0 := hc2
 have y_eb := z_eb
 clear hc1 hc2
 go_enter Try.func146, Try.ntmps146
 go_wp2_with fail
 refine (scopyView_c b1 _ _ s1 t1 _ l1 m1 (h1.ext qXo) (k1.ext qXo)).mono ?_
 rintro e w1 ⟨x1, x2, rfl, -, -, o1, o2, od, xw1⟩
 have Lw1 : Ext w w1 := Ext.trans qXt xw1
 have Xw1 : Ext w w1 := Lw1
 replace ea0 := Lw1.cell ea0
 replace eb0 := Lw1.cell eb0
 have va0 : w1.cell? ⟨w.heap.size, 0, none⟩ = some (.int .i64 b1) := xw1.cell qCl
 have va1 : w1.cell? ⟨w.heap.size, 1, none⟩ = some (.slice (some ⟨b1s, o1s, none⟩) s1.length cp1) := xw1.cell qCl
 have va2 : w1.cell? ⟨w.heap.size, 2, none⟩ = some (.slice (some ⟨b2s, o2s, none⟩) t1.length cp2) := xw1.cell qCl
 have sl0 : w1.cell? ⟨w.heap.size + 1, 0, none⟩ = some (.int .i64 F) := xw1.cell qCl
 have sl1 : w1.cell? ⟨w.heap.size + 1, 1, none⟩ = some (.int .i64 T) := xw1.cell qCl
 have sl2 : w1.cell? ⟨w.heap.size + 1, 2, none⟩ = some (.int .i64 B) := xw1.cell qCl
 have sl3 : w1.cell? ⟨w.heap.size + 1, 3, none⟩ = some (.bool hf) := xw1.cell qCl
 have sl4 : w1.cell? ⟨w.heap.size + 1, 4, none⟩ = some (.bool ht) := xw1.cell qCl
 have q0 : w1.cell? ⟨w.heap.size + 1 + 1, 0, none⟩ = some (.int .i64 0) := xw1.cell qCl
 have q1 : w1.cell? ⟨w.heap.size + 1 + 1, 1, none⟩ = some (.slice none 0 0) := xw1.cell qCl
 have q2 : w1.cell? ⟨w.heap.size + 1 + 1, 2, none⟩ = some (.slice none 0 0) := xw1.cell qCl
 have f_q0 : w1.frozen? ⟨w.heap.size + 1 + 1, 0, none⟩ = false := xw1.frz (by simp <;> omega) qFz
 have f_q1 : w1.frozen? ⟨w.heap.size + 1 + 1, 1, none⟩ = false := xw1.frz (by simp <;> omega) qFz
 have f_q2 : w1.frozen? ⟨w.heap.size + 1 + 1, 2, none⟩ = false := xw1.frz (by simp <;> omega) qFz
 have z_ea : b1s < w1.heap.size := qB ea0
 have z_eb : b2s < w1.heap.size := qB eb0
 have z_va : w.heap.size < w1.heap.size := qB va0
 have z_sl : w.heap.size + 1 < w1.heap.size := qB sl0
 have z_q : w.heap.size + 1 + 1 < w1.heap.size := qB q0
 have s_w1 : w.heap.size ≤ w1.heap.size := Xw1.size
 clear xw1
 have O1 := (o1.ofNe hne1).lower (show w.heap.size + 3 ≤ _ by simp)
 have O2 := (o2.ofNe hne2).lower (show w.heap.size + 3 ≤ _ by simp)
 clear o1 o2
 obtain ⟨g1, r1, rfl, G1, G1'⟩ := O1.row hne1
 obtain ⟨g2, r2, rfl, G2, G2'⟩ := O2.row hne2
 have hgg : g1 ≠ g2 := fun h => od hne1 hne2 (by rw [h]; rfl)
 clear od
 go_wp2_with fail
 generalize hW1 : w1.alloc (.cells #[.int .i64 b1, .slice (some ⟨g1, 0, none⟩) s1.length r1, .slice (some ⟨g2, 0, none⟩) t1.length r2] 25) = w2 at *
 have Lw2 : Ext w1 w2 := by subst hW1; exact qXt
 have Xw2 : Ext w w2 := Xw1.trans Lw2
 replace ea0 := Lw2.cell ea0
 replace eb0 := Lw2.cell eb0
 replace va0 := Lw2.cell va0
 replace va1 := Lw2.cell va1
 replace va2 := Lw2.cell va2
 replace sl0 := Lw2.cell sl0
 replace sl1 := Lw2.cell sl1
 replace sl2 := Lw2.cell sl2
 replace sl3 := Lw2.cell sl3
 replace sl4 := Lw2.cell sl4
 replace q0 := Lw2.cell q0
 replace q1 := Lw2.cell q1
 replace q2 := Lw2.cell q2
 replace f_q0 := Lw2.frz z_q f_q0
 replace f_q1 := Lw2.frz z_q f_q1
 replace f_q2 := Lw2.frz z_q f_q2
 have y0 : w2.cell? ⟨w1.heap.size, 0, none⟩ = some (.int .i64 b1) := by subst hW1; exact qCl
 have y1 : w2.cell? ⟨w1.heap.size, 1, none⟩ = some (.slice (some ⟨g1, 0, none⟩) s1.length r1) := by subst hW1; exact qCl
 have y2 : w2.cell? ⟨w1.heap.size, 2, none⟩ = some (.slice (some ⟨g2, 0, none⟩) t1.length r2) := by subst hW1; exact qCl
 have f_y0 : w2.frozen? ⟨w1.heap.size, 0, none⟩ = false := by subst hW1; exact qFz
 have f_y1 : w2.frozen? ⟨w1.heap.size, 1, none⟩ = false := by subst hW1; exact qFz
 have f_y2 : w2.frozen? ⟨w1.heap.size, 2, none⟩ = false := by subst hW1; exact qFz
 have z_ea : b1s < w2.heap.size := qB ea0
 have z_eb : b2s < w2.heap.size := qB eb0
 have z_va : w.heap.size < w2.heap.size := qB va0
 have z_sl : w.heap.size + 1 < w2.heap.size := qB sl0
 have z_q : w.heap.size + 1 + 1 < w2.heap.size := qB q0
 have z_y : w1.heap.size < w2.heap.size := qB y0
 replace O1 := O1.ext Lw2
 replace O2 := O2.ext Lw2
 have s_w2 : w.heap.size ≤ w2.heap.size := Xw2.size
 clear hW1
 go_cut [8] (fun s8 wx => ∃ g : Nat, s8 = .pointer (some ⟨g, 0, none⟩) ∧ Ext w2 wx ∧ w2.heap.size ≤ g ∧ wx.cell? ⟨g, 0, none⟩ = some (.int .i64 A) ∧ wx.cell? ⟨g, 1, none⟩ = some (.int .i64 A2) ∧ wx.cell? ⟨g, 2, none⟩ = some (.int .i64 A3))
 case first =>
  refine wp_region_held_drew (S := fun w' => w'.cell? ⟨b1s, o1s + d, none⟩ = some (.int .i64 n) ∧ w'.cell? ⟨w.heap.size, 1, none⟩ = some (.slice (some ⟨b1s, o1s, none⟩) s1.length cp1) ∧ w'.cell? ⟨w.heap.size + 1, 0, none⟩ = some (.int .i64 F) ∧ w'.cell? ⟨w.heap.size + 1, 1, none⟩ = some (.int .i64 T) ∧ w'.cell? ⟨w.heap.size + 1, 2, none⟩ = some (.int .i64 B) ∧ w'.cell? ⟨w.heap.size + 1, 3, none⟩ = some (.bool hf) ∧ w'.cell? ⟨w.heap.size + 1, 4, none⟩ = some (.bool ht)) qKr ⟨ea0, va1, sl0, sl1, sl2, sl3, sl4⟩ (fun hHeld => ?_)
  refine qHk (v := ?_) 0 rfl (.inl ⟨by rfl, ?_⟩) ?_
  rotate_left
  ·
   (intro w hSw; (try dsimp only at hSw); go_simp; try with_reducible rfl)
  try simp only [Act.put, qa, qb, qc, qD, qE, qF]
  refine qHk (v := ?_) 1 rfl (.inl ⟨by rfl, ?_⟩) ?_
  rotate_left
  ·
   (intro w hSw; (try dsimp only at hSw); go_simp; try with_reducible rfl)
  try simp only [Act.put, qa, qb, qc, qD, qE, qF]
  refine qHk (v := ?_) 2 rfl (.inl ⟨by rfl, ?_⟩) ?_
  rotate_left
  ·
   (intro w hSw; (try dsimp only at hSw); go_simp; try with_reducible rfl)
  try simp only [Act.put, qa, qb, qc, qD, qE, qF]
  refine qHk (v := ?_) 3 rfl (.inl ⟨by rfl, ?_⟩) ?_
  rotate_left
  ·
   (intro w hSw; (try dsimp only at hSw); go_simp; try with_reducible rfl)
  try simp only [Act.put, qa, qb, qc, qD, qE, qF]
  refine qHk (v := ?_) 4 rfl (.inl ⟨by rfl, ?_⟩) ?_
  rotate_left
  ·
   (intro w hSw; (try dsimp only at hSw); go_simp; try with_reducible rfl)
  try simp only [Act.put, qa, qb, qc, qD, qE, qF]
  refine qHk (v := ?_) 5 rfl (.inl ⟨by rfl, ?_⟩) ?_
  rotate_left
  ·
   (intro w hSw; (try dsimp only at hSw); go_simp; try with_reducible rfl)
  try simp only [Act.put, qa, qb, qc, qD, qE, qF]
  refine wpAnyH_ready (rs := [6, 8]) qKr (by simp) ?_
  refine AllReadyH.cons rfl (fun K hK => ?_) (AllReadyH.cons rfl (fun K hK => ?_) AllReadyH.nil)
  rotate_left
  try simp only [Act.put, qa, qb, qc, qD, qE, qF]
  go_simp
  refine hK.out _ _ ⟨(show Ext w2 _ from qXt).cell ea0, (show Ext w2 _ from qXt).cell va1, (show Ext w2 _ from qXt).cell sl0, (show Ext w2 _ from qXt).cell sl1, (show Ext w2 _ from qXt).cell sl2, (show Ext w2 _ from qXt).cell sl3, (show Ext w2 _ from qXt).cell sl4⟩ (fun hHeld => ?_)
  clear hK K
  try simp only [Act.put, qa, qb, qc, qD, qE, qF]
  have qa0 : (w2.drew.alloc (.cells #[.int .i64 0, .int .i64 0, .int .i64 0] 139)).cell? ⟨w2.heap.size, 0, none⟩ = some (.int .i64 0) := qCl
  have qf0 : (w2.drew.alloc (.cells #[.int .i64 0, .int .i64 0, .int .i64 0] 139)).frozen? ⟨w2.heap.size, 0, none⟩ = false := qFz
  have qa1 : (w2.drew.alloc (.cells #[.int .i64 0, .int .i64 0, .int .i64 0] 139)).cell? ⟨w2.heap.size, 1, none⟩ = some (.int .i64 0) := qCl
  have qf1 : (w2.drew.alloc (.cells #[.int .i64 0, .int .i64 0, .int .i64 0] 139)).frozen? ⟨w2.heap.size, 1, none⟩ = false := qFz
  have qa2 : (w2.drew.alloc (.cells #[.int .i64 0, .int .i64 0, .int .i64 0] 139)).cell? ⟨w2.heap.size, 2, none⟩ = some (.int .i64 0) := qCl
  have qf2 : (w2.drew.alloc (.cells #[.int .i64 0, .int .i64 0, .int .i64 0] 139)).frozen? ⟨w2.heap.size, 2, none⟩ = false := qFz
  have zg : w2.heap.size < (w2.drew.alloc (.cells #[.int .i64 0, .int .i64 0, .int .i64 0] 139)).heap.size := qB qa0
  have hg : w2.heap.size ≤ w2.heap.size := Nat.le_refl _
  refine qHr 6 rfl (fun K hK => ?_)
  try simp only [Act.put, qa, qb, qc, qD, qE, qF]
  go_simp
  refine (indices_c n F T B hf ht _ (by omega) hsl.out).mono ?_
  rintro e w3 ⟨r3, rfl, i3, -, xw3⟩
  have Lw3 : Ext w2 w3 := Ext.trans qXt xw3
  replace ea0 := Lw3.cell ea0
  replace va1 := Lw3.cell va1
  replace sl0 := Lw3.cell sl0
  replace sl1 := Lw3.cell sl1
  replace sl2 := Lw3.cell sl2
  replace sl3 := Lw3.cell sl3
  replace sl4 := Lw3.cell sl4
  rw [hLI.out] at i3
  replace qa0 := xw3.cell qa0
  replace qf0 := xw3.frz zg qf0
  replace qa1 := xw3.cell qa1
  replace qf1 := xw3.frz zg qf1
  replace qa2 := xw3.cell qa2
  replace qf2 := xw3.frz zg qf2
  replace zg := Nat.lt_of_lt_of_le zg xw3.size
  refine hK.out _ _ ⟨ea0, va1, sl0, sl1, sl2, sl3, sl4⟩ (fun hHeld => ?_)
  clear hK K
  try simp only [Act.put, qa, qb, qc, qD, qE, qF]
  refine qHr 7 rfl (fun K hK => ?_)
  try simp only [Act.put, qa, qb, qc, qD, qE, qF]
  go_simp
  refine (hnorm.out _ _ _ (i3.ext qXt)).mono ?_
  rintro e w4 ⟨rfl, xw4⟩
  have Lw4 : Ext w3 w4 := Ext.trans qXt xw4
  replace ea0 := Lw4.cell ea0
  replace va1 := Lw4.cell va1
  replace sl0 := Lw4.cell sl0
  replace sl1 := Lw4.cell sl1
  replace sl2 := Lw4.cell sl2
  replace sl3 := Lw4.cell sl3
  replace sl4 := Lw4.cell sl4
  replace qa0 := xw4.cell qa0
  replace qf0 := xw4.frz zg qf0
  replace qa1 := xw4.cell qa1
  replace qf1 := xw4.frz zg qf1
  replace qa2 := xw4.cell qa2
  replace qf2 := xw4.frz zg qf2
  replace zg := Nat.lt_of_lt_of_le zg xw4.size
  refine hK.out _ _ ⟨ea0, va1, sl0, sl1, sl2, sl3, sl4⟩ (fun hHeld => ?_)
  clear hK K
  try simp only [Act.put, qa, qb, qc, qD, qE, qF]
  refine qHr 9 rfl (fun K hK => ?_)
  try simp only [Act.put, qa, qb, qc, qD, qE, qF]
  go_simp
  have XE : Ext w2 (((w4.setCell ⟨w2.heap.size, 0, none⟩ (.int .i64 A)).setCell ⟨w2.heap.size, 1, none⟩ (.int .i64 A2)).setCell ⟨w2.heap.size, 2, none⟩ (.int .i64 A3)) := (Ext.setCell (Ext.setCell (Ext.setCell (Lw3.trans Lw4) hg _) hg _) hg _)
  have nr0 : (((w4.setCell ⟨w2.heap.size, 0, none⟩ (.int .i64 A)).setCell ⟨w2.heap.size, 1, none⟩ (.int .i64 A2)).setCell ⟨w2.heap.size, 2, none⟩ (.int .i64 A3)).cell? ⟨w2.heap.size, 0, none⟩ = some (.int .i64 A) := qCl
  have f_nr0 : (((w4.setCell ⟨w2.heap.size, 0, none⟩ (.int .i64 A)).setCell ⟨w2.heap.size, 1, none⟩ (.int .i64 A2)).setCell ⟨w2.heap.size, 2, none⟩ (.int .i64 A3)).frozen? ⟨w2.heap.size, 0, none⟩ = false := qFz
  have nr1 : (((w4.setCell ⟨w2.heap.size, 0, none⟩ (.int .i64 A)).setCell ⟨w2.heap.size, 1, none⟩ (.int .i64 A2)).setCell ⟨w2.heap.size, 2, none⟩ (.int .i64 A3)).cell? ⟨w2.heap.size, 1, none⟩ = some (.int .i64 A2) := qCl
  have f_nr1 : (((w4.setCell ⟨w2.heap.size, 0, none⟩ (.int .i64 A)).setCell ⟨w2.heap.size, 1, none⟩ (.int .i64 A2)).setCell ⟨w2.heap.size, 2, none⟩ (.int .i64 A3)).frozen? ⟨w2.heap.size, 1, none⟩ = false := qFz
  have nr2 : (((w4.setCell ⟨w2.heap.size, 0, none⟩ (.int .i64 A)).setCell ⟨w2.heap.size, 1, none⟩ (.int .i64 A2)).setCell ⟨w2.heap.size, 2, none⟩ (.int .i64 A3)).cell? ⟨w2.heap.size, 2, none⟩ = some (.int .i64 A3) := qCl
  have f_nr2 : (((w4.setCell ⟨w2.heap.size, 0, none⟩ (.int .i64 A)).setCell ⟨w2.heap.size, 1, none⟩ (.int .i64 A2)).setCell ⟨w2.heap.size, 2, none⟩ (.int .i64 A3)).frozen? ⟨w2.heap.size, 2, none⟩ = false := qFz
  have hg1 : w2.heap.size ≤ w2.heap.size := hg
  have KE : Chg w2.heap.size (w2.heap.size + 1) w4 (((w4.setCell ⟨w2.heap.size, 0, none⟩ (.int .i64 A)).setCell ⟨w2.heap.size, 1, none⟩ (.int .i64 A2)).setCell ⟨w2.heap.size, 2, none⟩ (.int .i64 A3)) := (by repeat (first | (with_reducible exact Chg.refl _ _ _) | (with_reducible refine Chg.setCell ?_ qSo qSo _) | (with_reducible refine Chg.ext ?_ (Ext.alloc (Ext.refl _) _)) | (with_reducible refine Chg.ext ?_ (Ext.drew (Ext.refl _)))))
  replace ea0 := KE.cell (by omega) ea0
  replace va1 := KE.cell (by omega) va1
  replace sl0 := KE.cell (by omega) sl0
  replace sl1 := KE.cell (by omega) sl1
  replace sl2 := KE.cell (by omega) sl2
  replace sl3 := KE.cell (by omega) sl3
  replace sl4 := KE.cell (by omega) sl4
  refine hK.out _ _ ⟨ea0, va1, sl0, sl1, sl2, sl3, sl4⟩ (fun hHeld => ?_)
  clear hK K KE
  try simp only [Act.put, qa, qb, qc, qD, qE, qF]
  refine wpAnyH_done qKr ?_ _
  clear hHeld
  generalize (((w4.setCell ⟨w2.heap.size, 0, none⟩ (.int .i64 A)).setCell ⟨w2.heap.size, 1, none⟩ (.int .i64 A2)).setCell ⟨w2.heap.size, 2, none⟩ (.int .i64 A3)) = WE at *
  go_step
  go_step
  go_meet
  case rel => exact ⟨_, rfl, XE, hg1, nr0, nr1, nr2⟩
  try simp only [Act.put, qa, qb, qc, qD, qE, qF]
  go_simp
  refine (indices_c n F T B hf ht _ (by omega) hsl.out).mono ?_
  rintro e w3 ⟨r3, rfl, i3, -, xw3⟩
  have Lw3 : Ext w2 w3 := Ext.trans qXt xw3
  replace ea0 := Lw3.cell ea0
  replace va1 := Lw3.cell va1
  replace sl0 := Lw3.cell sl0
  replace sl1 := Lw3.cell sl1
  replace sl2 := Lw3.cell sl2
  replace sl3 := Lw3.cell sl3
  replace sl4 := Lw3.cell sl4
  rw [hLI.out] at i3
  refine hK.out _ _ ⟨ea0, va1, sl0, sl1, sl2, sl3, sl4⟩ (fun hHeld => ?_)
  clear hK K
  try simp only [Act.put, qa, qb, qc, qD, qE, qF]
  refine wpAnyH_ready (rs := [7, 8]) qKr (by simp) ?_
  refine AllReadyH.cons rfl (fun K hK => ?_) (AllReadyH.cons rfl (fun K hK => ?_) AllReadyH.nil)
  rotate_left
  try simp only [Act.put, qa, qb, qc, qD, qE, qF]
  go_simp
  refine hK.out _ _ ⟨(show Ext w3 _ from qXt).cell ea0, (show Ext w3 _ from qXt).cell va1, (show Ext w3 _ from qXt).cell sl0, (show Ext w3 _ from qXt).cell sl1, (show Ext w3 _ from qXt).cell sl2, (show Ext w3 _ from qXt).cell sl3, (show Ext w3 _ from qXt).cell sl4⟩ (fun hHeld => ?_)
  clear hK K
  try simp only [Act.put, qa, qb, qc, qD, qE, qF]
  have qa0 : (w3.alloc (.cells #[.int .i64 0, .int .i64 0, .int .i64 0] 139)).cell? ⟨w3.heap.size, 0, none⟩ = some (.int .i64 0) := qCl
  have qf0 : (w3.alloc (.cells #[.int .i64 0, .int .i64 0, .int .i64 0] 139)).frozen? ⟨w3.heap.size, 0, none⟩ = false := qFz
  have qa1 : (w3.alloc (.cells #[.int .i64 0, .int .i64 0, .int .i64 0] 139)).cell? ⟨w3.heap.size, 1, none⟩ = some (.int .i64 0) := qCl
  have qf1 : (w3.alloc (.cells #[.int .i64 0, .int .i64 0, .int .i64 0] 139)).frozen? ⟨w3.heap.size, 1, none⟩ = false := qFz
  have qa2 : (w3.alloc (.cells #[.int .i64 0, .int .i64 0, .int .i64 0] 139)).cell? ⟨w3.heap.size, 2, none⟩ = some (.int .i64 0) := qCl
  have qf2 : (w3.alloc (.cells #[.int .i64 0, .int .i64 0, .int .i64 0] 139)).frozen? ⟨w3.heap.size, 2, none⟩ = false := qFz
  have zg : w3.heap.size < (w3.alloc (.cells #[.int .i64 0, .int .i64 0, .int .i64 0] 139)).heap.size := qB qa0
  have hg : w2.heap.size ≤ w3.heap.size := (Lw3).size
  refine qHr 7 rfl (fun K hK => ?_)
  try simp only [Act.put, qa, qb, qc, qD, qE, qF]
  go_simp
  refine (hnorm.out _ _ _ (i3.ext qXt)).mono ?_
  rintro e w4 ⟨rfl, xw4⟩
  have Lw4 : Ext w3 w4 := Ext.trans qXt xw4
  replace ea0 := Lw4.cell ea0
  replace va1 := Lw4.cell va1
  replace sl0 := Lw4.cell sl0
  replace sl1 := Lw4.cell sl1
  replace sl2 := Lw4.cell sl2
  replace sl3 := Lw4.cell sl3
  replace sl4 := Lw4.cell sl4
  replace qa0 := xw4.cell qa0
  replace qf0 := xw4.frz zg qf0
  replace qa1 := xw4.cell qa1
  replace qf1 := xw4.frz zg qf1
  replace qa2 := xw4.cell qa2
  replace qf2 := xw4.frz zg qf2
  replace zg := Nat.lt_of_lt_of_le zg xw4.size
  refine hK.out _ _ ⟨ea0, va1, sl0, sl1, sl2, sl3, sl4⟩ (fun hHeld => ?_)
  clear hK K
  try simp only [Act.put, qa, qb, qc, qD, qE, qF]
  refine qHr 9 rfl (fun K hK => ?_)
  try simp only [Act.put, qa, qb, qc, qD, qE, qF]
  go_simp
  have XE : Ext w2 (((w4.setCell ⟨w3.heap.size, 0, none⟩ (.int .i64 A)).setCell ⟨w3.heap.size, 1, none⟩ (.int .i64 A2)).setCell ⟨w3.heap.size, 2, none⟩ (.int .i64 A3)) := (Ext.setCell (Ext.setCell (Ext.setCell (Lw3.trans Lw4) hg _) hg _) hg _)
  have nr0 : (((w4.setCell ⟨w3.heap.size, 0, none⟩ (.int .i64 A)).setCell ⟨w3.heap.size, 1, none⟩ (.int .i64 A2)).setCell ⟨w3.heap.size, 2, none⟩ (.int .i64 A3)).cell? ⟨w3.heap.size, 0, none⟩ = some (.int .i64 A) := qCl
  have f_nr0 : (((w4.setCell ⟨w3.heap.size, 0, none⟩ (.int .i64 A)).setCell ⟨w3.heap.size, 1, none⟩ (.int .i64 A2)).setCell ⟨w3.heap.size, 2, none⟩ (.int .i64 A3)).frozen? ⟨w3.heap.size, 0, none⟩ = false := qFz
  have nr1 : (((w4.setCell ⟨w3.heap.size, 0, none⟩ (.int .i64 A)).setCell ⟨w3.heap.size, 1, none⟩ (.int .i64 A2)).setCell ⟨w3.heap.size, 2, none⟩ (.int .i64 A3)).cell? ⟨w3.heap.size, 1, none⟩ = some (.int .i64 A2) := qCl
  have f_nr1 : (((w4.setCell ⟨w3.heap.size, 0, none⟩ (.int .i64 A)).setCell ⟨w3.heap.size, 1, none⟩ (.int .i64 A2)).setCell ⟨w3.heap.size, 2, none⟩ (.int .i64 A3)).frozen? ⟨w3.heap.size, 1, none⟩ = false := qFz
  have nr2 : (((w4.setCell ⟨w3.heap.size, 0, none⟩ (.int .i64 A)).setCell ⟨w3.heap.size, 1, none⟩ (.int .i64 A2)).setCell ⟨w3.heap.size, 2, none⟩ (.int .i64 A3)).cell? ⟨w3.heap.size, 2, none⟩ = some (.int .i64 A3) := qCl
  have f_nr2 : (((w4.setCell ⟨w3.heap.size, 0, none⟩ (.int .i64 A)).setCell ⟨w3.heap.size, 1, none⟩ (.int .i64 A2)).setCell ⟨w3.heap.size, 2, none⟩ (.int .i64 A3)).frozen? ⟨w3.heap.size, 2, none⟩ = false := qFz
  have hg1 : w2.heap.size ≤ w3.heap.size := hg
  have KE : Chg w3.heap.size (w3.heap.size + 1) w4 (((w4.setCell ⟨w3.heap.size, 0, none⟩ (.int .i64 A)).setCell ⟨w3.heap.size, 1, none⟩ (.int .i64 A2)).setCell ⟨w3.heap.size, 2, none⟩ (.int .i64 A3)) := (by repeat (first | (with_reducible exact Chg.refl _ _ _) | (with_reducible refine Chg.setCell ?_ qSo qSo _) | (with_reducible refine Chg.ext ?_ (Ext.alloc (Ext.refl _) _)) | (with_reducible refine Chg.ext ?_ (Ext.drew (Ext.refl _)))))
  replace ea0 := KE.cell (by omega) ea0
  replace va1 := KE.cell (by omega) va1
  replace sl0 := KE.cell (by omega) sl0
  replace sl1 := KE.cell (by omega) sl1
  replace sl2 := KE.cell (by omega) sl2
  replace sl3 := KE.cell (by omega) sl3
  replace sl4 := KE.cell (by omega) sl4
  refine hK.out _ _ ⟨ea0, va1, sl0, sl1, sl2, sl3, sl4⟩ (fun hHeld => ?_)
  clear hK K KE
  try simp only [Act.put, qa, qb, qc, qD, qE, qF]
  refine wpAnyH_done qKr ?_ _
  clear hHeld
  generalize (((w4.setCell ⟨w3.heap.size, 0, none⟩ (.int .i64 A)).setCell ⟨w3.heap.size, 1, none⟩ (.int .i64 A2)).setCell ⟨w3.heap.size, 2, none⟩ (.int .i64 A3)) = WE at *
  go_step
  go_step
  go_meet
  case rel => exact ⟨_, rfl, XE, hg1, nr0, nr1, nr2⟩
  try simp only [Act.put, qa, qb, qc, qD, qE, qF]
  go_simp
  refine (hnorm.out _ _ _ (i3.ext qXt)).mono ?_
  rintro e w4 ⟨rfl, xw4⟩
  have Lw4 : Ext w3 w4 := Ext.trans qXt xw4
  replace ea0 := Lw4.cell ea0
  replace va1 := Lw4.cell va1
  replace sl0 := Lw4.cell sl0
  replace sl1 := Lw4.cell sl1
  replace sl2 := Lw4.cell sl2
  replace sl3 := Lw4.cell sl3
  replace sl4 := Lw4.cell sl4
  refine hK.out _ _ ⟨ea0, va1, sl0, sl1, sl2, sl3, sl4⟩ (fun hHeld => ?_)
  clear hK K
  try simp only [Act.put, qa, qb, qc, qD, qE, qF]
  refine qHr 8 rfl (fun K hK => ?_)
  try simp only [Act.put, qa, qb, qc, qD, qE, qF]
  go_simp
  refine hK.out _ _ ⟨(show Ext w4 _ from qXt).cell ea0, (show Ext w4 _ from qXt).cell va1, (show Ext w4 _ from qXt).cell sl0, (show Ext w4 _ from qXt).cell sl1, (show Ext w4 _ from qXt).cell sl2, (show Ext w4 _ from qXt).cell sl3, (show Ext w4 _ from qXt).cell sl4⟩ (fun hHeld => ?_)
  clear hK K
  try simp only [Act.put, qa, qb, qc, qD, qE, qF]
  refine qHr 9 rfl (fun K hK => ?_)
  try simp only [Act.put, qa, qb, qc, qD, qE, qF]
  go_simp
  have XE : Ext w2 (w4.alloc (.cells #[.int .i64 A, .int .i64 A2, .int .i64 A3] 139)) := (Lw3.trans Lw4).trans qXo
  have nr0 : (w4.alloc (.cells #[.int .i64 A, .int .i64 A2, .int .i64 A3] 139)).cell? ⟨w4.heap.size, 0, none⟩ = some (.int .i64 A) := qCl
  have f_nr0 : (w4.alloc (.cells #[.int .i64 A, .int .i64 A2, .int .i64 A3] 139)).frozen? ⟨w4.heap.size, 0, none⟩ = false := qFz
  have nr1 : (w4.alloc (.cells #[.int .i64 A, .int .i64 A2, .int .i64 A3] 139)).cell? ⟨w4.heap.size, 1, none⟩ = some (.int .i64 A2) := qCl
  have f_nr1 : (w4.alloc (.cells #[.int .i64 A, .int .i64 A2, .int .i64 A3] 139)).frozen? ⟨w4.heap.size, 1, none⟩ = false := qFz
  have nr2 : (w4.alloc (.cells #[.int .i64 A, .int .i64 A2, .int .i64 A3] 139)).cell? ⟨w4.heap.size, 2, none⟩ = some (.int .i64 A3) := qCl
  have f_nr2 : (w4.alloc (.cells #[.int .i64 A, .int .i64 A2, .int .i64 A3] 139)).frozen? ⟨w4.heap.size, 2, none⟩ = false := qFz
  have hg1 : w2.heap.size ≤ w4.heap.size := (Lw3.trans Lw4).size
  have KE : Ext w4 (w4.alloc (.cells #[.int .i64 A, .int .i64 A2, .int .i64 A3] 139)) := qXo
  replace ea0 := KE.cell ea0
  replace va1 := KE.cell va1
  replace sl0 := KE.cell sl0
  replace sl1 := KE.cell sl1
  replace sl2 := KE.cell sl2
  replace sl3 := KE.cell sl3
  replace sl4 := KE.cell sl4
  refine hK.out _ _ ⟨ea0, va1, sl0, sl1, sl2, sl3, sl4⟩ (fun hHeld => ?_)
  clear hK K KE
  try simp only [Act.put, qa, qb, qc, qD, qE, qF]
  refine wpAnyH_done qKr ?_ _
  clear hHeld
  generalize (w4.alloc (.cells #[.int .i64 A, .int .i64 A2, .int .i64 A3] 139)) = WE at *
  go_step
  go_step
  go_meet
  case rel => exact ⟨_, rfl, XE, hg1, nr0, nr1, nr2⟩
 case rest =>
  obtain ⟨g, rfl, xx, hgs, e0, e1, e2⟩ := hcut
  have hge : w1.heap.size < g := by omega
  have Lwc : Ext w2 wc := Ext.trans qXt xx
  have Xwc : Ext w wc := Xw2.trans Lwc
  replace ea0 := Lwc.cell ea0
  replace eb0 := Lwc.cell eb0
  replace va0 := Lwc.cell va0
  replace va1 := Lwc.cell va1
  replace va2 := Lwc.cell va2
  replace sl0 := Lwc.cell sl0
  replace sl1 := Lwc.cell sl1
  replace sl2 := Lwc.cell sl2
  replace sl3 := Lwc.cell sl3
  replace sl4 := Lwc.cell sl4
  replace q0 := Lwc.cell q0
  replace q1 := Lwc.cell q1
  replace q2 := Lwc.cell q2
  replace f_q0 := Lwc.frz z_q f_q0
  replace f_q1 := Lwc.frz z_q f_q1
  replace f_q2 := Lwc.frz z_q f_q2
  replace y0 := Lwc.cell y0
  replace y1 := Lwc.cell y1
  replace y2 := Lwc.cell y2
  replace f_y0 := Lwc.frz z_y f_y0
  replace f_y1 := Lwc.frz z_y f_y1
  replace f_y2 := Lwc.frz z_y f_y2
  have z_ea : b1s < wc.heap.size := qB ea0
  have z_eb : b2s < wc.heap.size := qB eb0
  have z_va : w.heap.size < wc.heap.size := qB va0
  have z_sl : w.heap.size + 1 < wc.heap.size := qB sl0
  have z_q : w.heap.size + 1 + 1 < wc.heap.size := qB q0
  have z_y : w1.heap.size < wc.heap.size := qB y0
  replace O1 := O1.ext Lwc
  replace O2 := O2.ext Lwc
  have s_wc : w.heap.size ≤ wc.heap.size := Xwc.size
  have z_e : g < wc.heap.size := qB e0
  clear xx hnorm
  go_wp2_with fail
  refine (hnum.out _).mono ?_
  rintro e w6 ⟨v9, rfl, i9, -, xw6⟩
  have Lw6 : Ext wc w6 := Ext.trans qXt xw6
  have Xw6 : Ext w w6 := Xwc.trans Lw6
  replace ea0 := Lw6.cell ea0
  replace eb0 := Lw6.cell eb0
  replace va0 := Lw6.cell va0
  replace va1 := Lw6.cell va1
  replace va2 := Lw6.cell va2
  replace sl0 := Lw6.cell sl0
  replace sl1 := Lw6.cell sl1
  replace sl2 := Lw6.cell sl2
  replace sl3 := Lw6.cell sl3
  replace sl4 := Lw6.cell sl4
  replace q0 := Lw6.cell q0
  replace q1 := Lw6.cell q1
  replace q2 := Lw6.cell q2
  replace f_q0 := Lw6.frz z_q f_q0
  replace f_q1 := Lw6.frz z_q f_q1
  replace f_q2 := Lw6.frz z_q f_q2
  replace y0 := Lw6.cell y0
  replace y1 := Lw6.cell y1
  replace y2 := Lw6.cell y2
  replace f_y0 := Lw6.frz z_y f_y0
  replace f_y1 := Lw6.frz z_y f_y1
  replace f_y2 := Lw6.frz z_y f_y2
  replace e0 := Lw6.cell e0
  replace e1 := Lw6.cell e1
  replace e2 := Lw6.cell e2
  have z_ea : b1s < w6.heap.size := qB ea0
  have z_eb : b2s < w6.heap.size := qB eb0
  have z_va : w.heap.size < w6.heap.size := qB va0
  have z_sl : w.heap.size + 1 < w6.heap.size := qB sl0
  have z_q : w.heap.size + 1 + 1 < w6.heap.size := qB q0
  have z_y : w1.heap.size < w6.heap.size := qB y0
  have z_e : g < w6.heap.size := qB e0
  replace O1 := O1.ext Lw6
  replace O2 := O2.ext Lw6
  have s_w6 : w.heap.size ≤ w6.heap.size := Xw6.size
  clear xw6
  obtain ⟨p9, n9, rfl⟩ := i9.form
  have A1 := O1.cell d hd
  obtain ⟨A1a, A1b⟩ := A1
  go_wp2_with fail
  generalize hW2 : (w6.setCell ⟨g1, d, none⟩ (.int .i64 (L.length : Int))) = w7 at *
  have Kw7 : Chg (g1) (g1 + 1) w6 w7 := by subst hW2; exact qCh
  have Xw7 : Ext w w7 := by subst hW2; exact qXt
  replace ea0 := Kw7.cell (by omega) ea0
  replace eb0 := Kw7.cell (by omega) eb0
  replace va0 := Kw7.cell (by omega) va0
  replace va1 := Kw7.cell (by omega) va1
  replace va2 := Kw7.cell (by omega) va2
  replace sl0 := Kw7.cell (by omega) sl0
  replace sl1 := Kw7.cell (by omega) sl1
  replace sl2 := Kw7.cell (by omega) sl2
  replace sl3 := Kw7.cell (by omega) sl3
  replace sl4 := Kw7.cell (by omega) sl4
  replace q0 := Kw7.cell (by omega) q0
  replace f_q0 := Kw7.frzO (by omega) z_q f_q0
  replace q1 := Kw7.cell (by omega) q1
  replace f_q1 := Kw7.frzO (by omega) z_q f_q1
  replace q2 := Kw7.cell (by omega) q2
  replace f_q2 := Kw7.frzO (by omega) z_q f_q2
  replace y0 := Kw7.cell (by omega) y0
  replace f_y0 := Kw7.frzO (by omega) z_y f_y0
  replace y1 := Kw7.cell (by omega) y1
  replace f_y1 := Kw7.frzO (by omega) z_y f_y1
  replace y2 := Kw7.cell (by omega) y2
  replace f_y2 := Kw7.frzO (by omega) z_y f_y2
  replace e0 := Kw7.cell (by omega) e0
  replace e1 := Kw7.cell (by omega) e1
  replace e2 := Kw7.cell (by omega) e2
  have n_O1 := O1.set d (L.length) (by first | omega | (simp; omega))
  rw [hW2] at n_O1
  replace O1 := n_O1
  clear n_O1
  replace O2 := O2.chgN Kw7 (by omega)
  clear Kw7
  have z_ea : b1s < w7.heap.size := qB ea0
  have z_eb : b2s < w7.heap.size := qB eb0
  have z_va : w.heap.size < w7.heap.size := qB va0
  have z_sl : w.heap.size + 1 < w7.heap.size := qB sl0
  have z_q : w.heap.size + 1 + 1 < w7.heap.size := qB q0
  have z_y : w1.heap.size < w7.heap.size := qB y0
  have z_e : g < w7.heap.size := qB e0
  have s_w7 : w.heap.size ≤ w7.heap.size := Xw7.size
  clear hW2
  go_wp2_with fail
  have hw0 : IntKind.i64.wrap (A * x) = A * x := IntWalk.i64_in _ (by omega)
  have hw1 : IntKind.i64.wrap (b1 + A * x) = b1 + A * x := IntWalk.i64_in _ (by omega)
  refine wp_region_tail (S := fun w' => w'.cell? ⟨b2s, o2s + d, none⟩ = some (.int .i64 x) ∧ w'.cell? ⟨w.heap.size, 0, none⟩ = some (.int .i64 b1) ∧ w'.cell? ⟨w.heap.size, 2, none⟩ = some (.slice (some ⟨b2s, o2s, none⟩) t1.length cp2) ∧ w'.cell? ⟨g, 0, none⟩ = some (.int .i64 A)) (fun i => decide (12 ≤ i)) qKr ⟨eb0, va0, va2, e0⟩ (fun hHeld => ?_)
  refine qTk (v := ?_) 0 rfl (.inl ⟨by rfl, ?_⟩) ?_
  rotate_left
  ·
   (intro w hSw; (try dsimp only at hSw); go_simp; try with_reducible rfl)
  try simp only [Act.put, qa, qb, qc, qD, qE, qF]
  refine qTk (v := ?_) 1 rfl (.inl ⟨by rfl, ?_⟩) ?_
  rotate_left
  ·
   (intro w hSw; (try dsimp only at hSw); go_simp; try with_reducible rfl)
  try simp only [Act.put, qa, qb, qc, qD, qE, qF]
  refine qTk (v := ?_) 2 rfl (.inl ⟨by rfl, ?_⟩) ?_
  rotate_left
  ·
   (intro w hSw; (try dsimp only at hSw); go_simp; try with_reducible rfl)
  try simp only [Act.put, qa, qb, qc, qD, qE, qF]
  refine qTk (v := ?_) 3 rfl (.inl ⟨by rfl, ?_⟩) ?_
  rotate_left
  ·
   (intro w hSw; (try dsimp only at hSw); go_simp; try with_reducible rfl)
  try simp only [Act.put, qa, qb, qc, qD, qE, qF]
  refine qTk (v := ?_) 4 rfl (.inl ⟨by rfl, ?_⟩) ?_
  rotate_left
  ·
   (intro w hSw; (try dsimp only at hSw); go_simp; try with_reducible rfl)
  try simp only [Act.put, qa, qb, qc, qD, qE, qF]
  refine qTk (v := ?_) 5 rfl (.inl ⟨by rfl, ?_⟩) ?_
  rotate_left
  ·
   (intro w hSw; (try dsimp only at hSw); go_simp; try with_reducible rfl)
  try simp only [Act.put, qa, qb, qc, qD, qE, qF]
  refine qTk (v := ?_) 6 rfl (.inl ⟨by rfl, ?_⟩) ?_
  rotate_left
  ·
   (intro w hSw; (try dsimp only at hSw); go_simp; try with_reducible rfl)
  try simp only [Act.put, qa, qb, qc, qD, qE, qF]
  refine qTk (v := ?_) 7 rfl (.inl ⟨by rfl, ?_⟩) ?_
  rotate_left
  ·
   (intro w hSw; (try dsimp only at hSw); go_simp; try with_reducible rfl)
  try simp only [Act.put, qa, qb, qc, qD, qE, qF]
  refine qTk (v := ?_) 8 rfl (.inl ⟨by rfl, ?_⟩) ?_
  rotate_left
  ·
   (intro w hSw; (try dsimp only at hSw); go_simp; try with_reducible rfl)
  try simp only [Act.put, qa, qb, qc, qD, qE, qF]
  refine qTk (v := ?_) 9 rfl (.inl ⟨by rfl, ?_⟩) ?_
  rotate_left
  ·
   (intro w hSw; (try dsimp only at hSw); go_simp; try with_reducible rfl)
  try simp only [Act.put, qa, qb, qc, qD, qE, qF]
  refine qTk (v := ?_) 10 rfl (.inl ⟨by rfl, ?_⟩) ?_
  rotate_left
  ·
   (intro w hSw; (try dsimp only at hSw); go_simp; try with_reducible rfl)
  try simp only [Act.put, qa, qb, qc, qD, qE, qF]
  refine qTk (v := ?_) 11 rfl (.inl ⟨by rfl, ?_⟩) ?_
  rotate_left
  ·
   (intro w hSw; (try dsimp only at hSw); go_simp; try with_reducible rfl)
  try simp only [Act.put, qa, qb, qc, qD, qE, qF]
  refine wpTail_last (i := 12) qKr rfl rfl (fun K hK => ?_)
  try simp only [Act.put, qa, qb, qc, qD, qE, qF]
  go_simp
  refine hK.out _ _ ?_
  clear hK K
  try simp only [Act.put, qa, qb, qc, qD, qE, qF]
  refine wpTail_done qKr ?_ _
  clear hHeld hw0 hw1
  generalize hW3 : ((w7.setCell ⟨w1.heap.size, 0, none⟩ (.int .i64 (b1 + A * x))).drew) = w8 at *
  have Kw8 : Chg (w1.heap.size) (w1.heap.size + 1) w7 w8 := by subst hW3; exact qCh
  have Xw8 : Ext w w8 := by subst hW3; exact qXt
  replace ea0 := Kw8.cell (by omega) ea0
  replace eb0 := Kw8.cell (by omega) eb0
  replace va0 := Kw8.cell (by omega) va0
  replace va1 := Kw8.cell (by omega) va1
  replace va2 := Kw8.cell (by omega) va2
  replace sl0 := Kw8.cell (by omega) sl0
  replace sl1 := Kw8.cell (by omega) sl1
  replace sl2 := Kw8.cell (by omega) sl2
  replace sl3 := Kw8.cell (by omega) sl3
  replace sl4 := Kw8.cell (by omega) sl4
  replace q0 := Kw8.cell (by omega) q0
  replace f_q0 := Kw8.frzO (by omega) z_q f_q0
  replace q1 := Kw8.cell (by omega) q1
  replace f_q1 := Kw8.frzO (by omega) z_q f_q1
  replace q2 := Kw8.cell (by omega) q2
  replace f_q2 := Kw8.frzO (by omega) z_q f_q2
  replace y0 : w8.cell? ⟨w1.heap.size, 0, none⟩ = some (.int .i64 (b1 + A * x)) := by subst hW3; go_simp
  replace f_y0 : w8.frozen? ⟨w1.heap.size, 0, none⟩ = false := by subst hW3; go_simp
  replace y1 : w8.cell? ⟨w1.heap.size, 1, none⟩ = some (.slice (some ⟨g1, 0, none⟩) s1.length r1) := by subst hW3; go_simp
  replace f_y1 : w8.frozen? ⟨w1.heap.size, 1, none⟩ = false := by subst hW3; go_simp
  replace y2 : w8.cell? ⟨w1.heap.size, 2, none⟩ = some (.slice (some ⟨g2, 0, none⟩) t1.length r2) := by subst hW3; go_simp
  replace f_y2 : w8.frozen? ⟨w1.heap.size, 2, none⟩ = false := by subst hW3; go_simp
  replace e0 := Kw8.cell (by omega) e0
  replace e1 := Kw8.cell (by omega) e1
  replace e2 := Kw8.cell (by omega) e2
  replace O1 := O1.chgN Kw8 (by omega)
  replace O2 := O2.chgN Kw8 (by omega)
  clear Kw8
  have z_ea : b1s < w8.heap.size := qB ea0
  have z_eb : b2s < w8.heap.size := qB eb0
  have z_va : w.heap.size < w8.heap.size := qB va0
  have z_sl : w.heap.size + 1 < w8.heap.size := qB sl0
  have z_q : w.heap.size + 1 + 1 < w8.heap.size := qB q0
  have z_y : w1.heap.size < w8.heap.size := qB y0
  have z_e : g < w8.heap.size := qB e0
  have s_w8 : w.heap.size ≤ w8.heap.size := Xw8.size
  clear hW3
  have B1 := O2.cell d hd2
  obtain ⟨B1a, B1b⟩ := B1
  go_wp2_with fail
  have hw0 : IntKind.i64.wrap (A3 * x) = A3 * x := IntWalk.i64_in _ (by omega)
  refine wp_region_tail (S := fun w' => w'.cell? ⟨b2s, o2s + d, none⟩ = some (.int .i64 x) ∧ w'.cell? ⟨w.heap.size, 2, none⟩ = some (.slice (some ⟨b2s, o2s, none⟩) t1.length cp2) ∧ w'.cell? ⟨w1.heap.size, 2, none⟩ = some (.slice (some ⟨g2, 0, none⟩) t1.length r2) ∧ w'.cell? ⟨g, 2, none⟩ = some (.int .i64 A3)) (fun i => decide (12 ≤ i)) qKr ⟨eb0, va2, y2, e2⟩ (fun hHeld => ?_)
  refine qTk (v := ?_) 0 rfl (.inl ⟨by rfl, ?_⟩) ?_
  rotate_left
  ·
   (intro w hSw; (try dsimp only at hSw); go_simp; try with_reducible rfl)
  try simp only [Act.put, qa, qb, qc, qD, qE, qF]
  refine qTk (v := ?_) 1 rfl (.inl ⟨by rfl, ?_⟩) ?_
  rotate_left
  ·
   (intro w hSw; (try dsimp only at hSw); go_simp; try with_reducible rfl)
  try simp only [Act.put, qa, qb, qc, qD, qE, qF]
  refine qTk (v := ?_) 2 rfl (.inl ⟨by rfl, ?_⟩) ?_
  rotate_left
  ·
   (intro w hSw; (try dsimp only at hSw); go_simp; try with_reducible rfl)
  try simp only [Act.put, qa, qb, qc, qD, qE, qF]
  refine qTk (v := ?_) 3 rfl (.inl ⟨by rfl, ?_⟩) ?_
  rotate_left
  ·
   (intro w hSw; (try dsimp only at hSw); go_simp; try with_reducible rfl)
  try simp only [Act.put, qa, qb, qc, qD, qE, qF]
  refine qTk (v := ?_) 4 rfl (.inl ⟨by rfl, ?_⟩) ?_
  rotate_left
  ·
   (intro w hSw; (try dsimp only at hSw); go_simp; try with_reducible rfl)
  try simp only [Act.put, qa, qb, qc, qD, qE, qF]
  refine qTk (v := ?_) 5 rfl (.inl ⟨by rfl, ?_⟩) ?_
  rotate_left
  ·
   (intro w hSw; (try dsimp only at hSw); go_simp; try with_reducible rfl)
  try simp only [Act.put, qa, qb, qc, qD, qE, qF]
  refine qTk (v := ?_) 6 rfl (.inl ⟨by rfl, ?_⟩) ?_
  rotate_left
  ·
   (intro w hSw; (try dsimp only at hSw); go_simp; try with_reducible rfl)
  try simp only [Act.put, qa, qb, qc, qD, qE, qF]
  refine qTk (v := ?_) 7 rfl (.inl ⟨by rfl, ?_⟩) ?_
  rotate_left
  ·
   (intro w hSw; (try dsimp only at hSw); go_simp; try with_reducible rfl)
  try simp only [Act.put, qa, qb, qc, qD, qE, qF]
  refine qTk (v := ?_) 8 rfl (.inl ⟨by rfl, ?_⟩) ?_
  rotate_left
  ·
   (intro w hSw; (try dsimp only at hSw); go_simp; try with_reducible rfl)
  try simp only [Act.put, qa, qb, qc, qD, qE, qF]
  refine qTk (v := ?_) 9 rfl (.inl ⟨by rfl, ?_⟩) ?_
  rotate_left
  ·
   (intro w hSw; (try dsimp only at hSw); go_simp; try with_reducible rfl)
  try simp only [Act.put, qa, qb, qc, qD, qE, qF]
  refine qTk (v := ?_) 10 rfl (.inl ⟨by rfl, ?_⟩) ?_
  rotate_left
  ·
   (intro w hSw; (try dsimp only at hSw); go_simp; try with_reducible rfl)
  try simp only [Act.put, qa, qb, qc, qD, qE, qF]
  refine qTk (v := ?_) 11 rfl (.inl ⟨by rfl, ?_⟩) ?_
  rotate_left
  ·
   (intro w hSw; (try dsimp only at hSw); go_simp; try with_reducible rfl)
  try simp only [Act.put, qa, qb, qc, qD, qE, qF]
  refine wpTail_last (i := 12) qKr rfl rfl (fun K hK => ?_)
  try simp only [Act.put, qa, qb, qc, qD, qE, qF]
  go_simp
  refine hK.out _ _ ?_
  clear hK K
  try simp only [Act.put, qa, qb, qc, qD, qE, qF]
  refine wpTail_done qKr ?_ _
  clear hHeld hw0
  generalize hW4 : ((w8.setCell ⟨g2, d, none⟩ (.int .i64 (A3 * x))).drew) = w9 at *
  have Kw9 : Chg (g2) (g2 + 1) w8 w9 := by subst hW4; exact qCh
  have Xw9 : Ext w w9 := by subst hW4; exact qXt
  replace ea0 := Kw9.cell (by omega) ea0
  replace eb0 := Kw9.cell (by omega) eb0
  replace va0 := Kw9.cell (by omega) va0
  replace va1 := Kw9.cell (by omega) va1
  replace va2 := Kw9.cell (by omega) va2
  replace sl0 := Kw9.cell (by omega) sl0
  replace sl1 := Kw9.cell (by omega) sl1
  replace sl2 := Kw9.cell (by omega) sl2
  replace sl3 := Kw9.cell (by omega) sl3
  replace sl4 := Kw9.cell (by omega) sl4
  replace q0 := Kw9.cell (by omega) q0
  replace f_q0 := Kw9.frzO (by omega) z_q f_q0
  replace q1 := Kw9.cell (by omega) q1
  replace f_q1 := Kw9.frzO (by omega) z_q f_q1
  replace q2 := Kw9.cell (by omega) q2
  replace f_q2 := Kw9.frzO (by omega) z_q f_q2
  replace y0 := Kw9.cell (by omega) y0
  replace f_y0 := Kw9.frzO (by omega) z_y f_y0
  replace y1 := Kw9.cell (by omega) y1
  replace f_y1 := Kw9.frzO (by omega) z_y f_y1
  replace y2 := Kw9.cell (by omega) y2
  replace f_y2 := Kw9.frzO (by omega) z_y f_y2
  replace e0 := Kw9.cell (by omega) e0
  replace e1 := Kw9.cell (by omega) e1
  replace e2 := Kw9.cell (by omega) e2
  replace O1 := O1.chgN Kw9 (by omega)
  have n_O2 := O2.setD d (A3 * x) (by first | omega | (simp; omega))
  rw [hW4] at n_O2
  replace O2 := n_O2
  clear n_O2
  clear Kw9
  have z_ea : b1s < w9.heap.size := qB ea0
  have z_eb : b2s < w9.heap.size := qB eb0
  have z_va : w.heap.size < w9.heap.size := qB va0
  have z_sl : w.heap.size + 1 < w9.heap.size := qB sl0
  have z_q : w.heap.size + 1 + 1 < w9.heap.size := qB q0
  have z_y : w1.heap.size < w9.heap.size := qB y0
  have z_e : g < w9.heap.size := qB e0
  have s_w9 : w.heap.size ≤ w9.heap.size := Xw9.size
  clear hW4
  clear ea0
  clear eb0
  clear e0 e1 e2
  clear sl0 sl1 sl2 sl3 sl4
  clear va0 va1 va2
  clear hLb hnum hsl hst hin hAx hCx
  have hz1 := O1.len
  have hz2 := O2.len
  by_cases hle : L.length ≤ 1
  ·
   have hleI : (L.length : Int) ≤ 1 := by omega
   have B1 := O2.cell d (by simpa using hd2)
   obtain ⟨B1a, B1b⟩ := B1
   go_wp2_with fail
   generalize hW5 : (w9.setCell ⟨g2, d, none⟩ (.int .i64 0)) = w10 at *
   have Kw10 : Chg (g2) (g2 + 1) w9 w10 := by subst hW5; exact qCh
   have Xw10 : Ext w w10 := by subst hW5; exact qXt
   replace q0 := Kw10.cell (by omega) q0
   replace f_q0 := Kw10.frzO (by omega) z_q f_q0
   replace q1 := Kw10.cell (by omega) q1
   replace f_q1 := Kw10.frzO (by omega) z_q f_q1
   replace q2 := Kw10.cell (by omega) q2
   replace f_q2 := Kw10.frzO (by omega) z_q f_q2
   replace y0 := Kw10.cell (by omega) y0
   replace f_y0 := Kw10.frzO (by omega) z_y f_y0
   replace y1 := Kw10.cell (by omega) y1
   replace f_y1 := Kw10.frzO (by omega) z_y f_y1
   replace y2 := Kw10.cell (by omega) y2
   replace f_y2 := Kw10.frzO (by omega) z_y f_y2
   replace O1 := O1.chgN Kw10 (by omega)
   have n_O2 := O2.set d (0) (by first | omega | (simp; omega))
   rw [hW5] at n_O2
   replace O2 := n_O2
   clear n_O2
   clear Kw10
   have z_q : w.heap.size + 1 + 1 < w10.heap.size := qB q0
   have z_y : w1.heap.size < w10.heap.size := qB y0
   have s_w10 : w.heap.size ≤ w10.heap.size := Xw10.size
   clear hW5
   rw [List.set_set] at O2
   by_cases hz : countL (s1.set d (L.length : Int)) = 0
   ·
    have hT : Hid (cutT s1 t1 d L = List.replicate s1.length 0) := Lib.hid (by unfold cutT tidyT; rw [if_pos hz, List.length_set])
    have hB : Hid (cutB b1 s1 t1 d L = 0) := Lib.hid (by unfold cutB tidyB; rw [if_pos hz])
    have hi1 := O1.ints hz1
    have hi2 := O2.ints (by simpa using hz2)
    have hzH := Lib.hid hz
    clear hz hle
    have zq0 := z_q
    have zy0 := z_y
    go_wp2_with fail
    refine (tidy_0 (b1 + A * x) _ _ (s1.set d (L.length : Int)) _ _ (hi1.ext qXt) hzH.out).mono ?_
    rintro e w11 ⟨st, rfl, O3, xw11⟩
    have Lw11 : Ext w10 w11 := Ext.trans qXt xw11
    have Xw11 : Ext w w11 := Xw10.trans Lw11
    replace q0 := Lw11.cell q0
    replace q1 := Lw11.cell q1
    replace q2 := Lw11.cell q2
    replace f_q0 := Lw11.frz z_q f_q0
    replace f_q1 := Lw11.frz z_q f_q1
    replace f_q2 := Lw11.frz z_q f_q2
    replace y0 := Lw11.cell y0
    replace y1 := Lw11.cell y1
    replace y2 := Lw11.cell y2
    replace f_y0 := Lw11.frz z_y f_y0
    replace f_y1 := Lw11.frz z_y f_y1
    replace f_y2 := Lw11.frz z_y f_y2
    have z_q : w.heap.size + 1 + 1 < w11.heap.size := qB q0
    have z_y : w1.heap.size < w11.heap.size := qB y0
    replace O1 := O1.ext Lw11
    replace O2 := O2.ext Lw11
    have s_w11 : w.heap.size ≤ w11.heap.size := Xw11.size
    clear xw11
    have hne3 : List.replicate (s1.set d (L.length : Int)).length (0 : Int) ≠ [] := by simp; exact hne1
    obtain ⟨g3, r3, rfl, G3, G3'⟩ := O3.row hne3
    simp only [List.length_replicate, List.length_set] at O3 ⊢
    have G3b : w.heap.size + 3 ≤ g3 := by omega
    clear hi1 hi2

    go_wp2_with fail
    generalize hW6 : (((w11.setCell ⟨w.heap.size + 1 + 1, 0, none⟩ (.int .i64 0)).setCell ⟨w.heap.size + 1 + 1, 1, none⟩ (.slice (some ⟨g1, 0, none⟩) s1.length r1)).setCell ⟨w.heap.size + 1 + 1, 2, none⟩ (.slice (some ⟨g3, 0, none⟩) s1.length r3)) = w12 at *
    have Kw12 : Chg (w.heap.size + 1 + 1) (w.heap.size + 1 + 1 + 1) w11 w12 := by subst hW6; exact qCh
    have Xw12 : Ext w w12 := by subst hW6; exact qXt
    replace q0 : w12.cell? ⟨w.heap.size + 1 + 1, 0, none⟩ = some (.int .i64 0) := by subst hW6; go_simp
    replace f_q0 : w12.frozen? ⟨w.heap.size + 1 + 1, 0, none⟩ = false := by subst hW6; go_simp
    replace q1 : w12.cell? ⟨w.heap.size + 1 + 1, 1, none⟩ = some (.slice (some ⟨g1, 0, none⟩) s1.length r1) := by subst hW6; go_simp
    replace f_q1 : w12.frozen? ⟨w.heap.size + 1 + 1, 1, none⟩ = false := by subst hW6; go_simp
    replace q2 : w12.cell? ⟨w.heap.size + 1 + 1, 2, none⟩ = some (.slice (some ⟨g3, 0, none⟩) s1.length r3) := by subst hW6; go_simp
    replace f_q2 : w12.frozen? ⟨w.heap.size + 1 + 1, 2, none⟩ = false := by subst hW6; go_simp
    replace y0 := Kw12.cell (by omega) y0
    replace f_y0 := Kw12.frzO (by omega) z_y f_y0
    replace y1 := Kw12.cell (by omega) y1
    replace f_y1 := Kw12.frzO (by omega) z_y f_y1
    replace y2 := Kw12.cell (by omega) y2
    replace f_y2 := Kw12.frzO (by omega) z_y f_y2
    replace O1 := O1.chgN Kw12 (by omega)
    replace O2 := O2.chgN Kw12 (by omega)
    replace O3 := O3.chgN Kw12 (by omega)
    clear Kw12
    have z_q : w.heap.size + 1 + 1 < w12.heap.size := qB q0
    have z_y : w1.heap.size < w12.heap.size := qB y0
    have s_w12 : w.heap.size ≤ w12.heap.size := Xw12.size
    clear hW6
    refine bodyPost_ret (v := .agg #[.int .i64 0, .slice (some ⟨g1, 0, none⟩) s1.length r1, .slice (some ⟨g3, 0, none⟩) s1.length r3]) (by simp only [results, Try.results146]; go_simp) rfl ?_
    rw [hT.out, hB.out]
    exact PView.own (O1.lower (by omega)).z (O3.lower (by omega)).z (fun _ _ => by simp [Value.ownBlock]; omega) (by unfold cutS; simpa using hlen1) (by simp <;> omega) Xw12
   ·
    have hT : Hid (cutT s1 t1 d L = t1.set d 0) := Lib.hid (by unfold cutT tidyT; rw [if_neg hz, if_pos hle])
    have hB : Hid (cutB b1 s1 t1 d L = b1 + A * x) := Lib.hid (by unfold cutB tidyB; rw [if_neg hz, hN1.out, hg2.out])
    have hi1 := O1.ints hz1
    have hi2 := O2.ints (by simpa using hz2)
    have hzH := Lib.hid hz
    clear hz hle
    have zq0 := z_q
    have zy0 := z_y
    go_wp2_with fail
    refine (tidy_1 (b1 + A * x) _ _ (s1.set d (L.length : Int)) (t1.set d 0) _ _ _ (hi1.ext qXt) (hi2.ext qXt) hzH.out).mono ?_
    rintro e w11 ⟨rfl, xw11⟩
    have Lw11 : Ext w10 w11 := Ext.trans qXt xw11
    have Xw11 : Ext w w11 := Xw10.trans Lw11
    replace q0 := Lw11.cell q0
    replace q1 := Lw11.cell q1
    replace q2 := Lw11.cell q2
    replace f_q0 := Lw11.frz z_q f_q0
    replace f_q1 := Lw11.frz z_q f_q1
    replace f_q2 := Lw11.frz z_q f_q2
    replace y0 := Lw11.cell y0
    replace y1 := Lw11.cell y1
    replace y2 := Lw11.cell y2
    replace f_y0 := Lw11.frz z_y f_y0
    replace f_y1 := Lw11.frz z_y f_y1
    replace f_y2 := Lw11.frz z_y f_y2
    have z_q : w.heap.size + 1 + 1 < w11.heap.size := qB q0
    have z_y : w1.heap.size < w11.heap.size := qB y0
    replace O1 := O1.ext Lw11
    replace O2 := O2.ext Lw11
    have s_w11 : w.heap.size ≤ w11.heap.size := Xw11.size
    clear xw11
    clear hi1 hi2

    go_wp2_with fail
    generalize hW7 : (((w11.setCell ⟨w.heap.size + 1 + 1, 0, none⟩ (.int .i64 (b1 + A * x))).setCell ⟨w.heap.size + 1 + 1, 1, none⟩ (.slice (some ⟨g1, 0, none⟩) s1.length r1)).setCell ⟨w.heap.size + 1 + 1, 2, none⟩ (.slice (some ⟨g2, 0, none⟩) t1.length r2)) = w12 at *
    have Kw12 : Chg (w.heap.size + 1 + 1) (w.heap.size + 1 + 1 + 1) w11 w12 := by subst hW7; exact qCh
    have Xw12 : Ext w w12 := by subst hW7; exact qXt
    replace q0 : w12.cell? ⟨w.heap.size + 1 + 1, 0, none⟩ = some (.int .i64 (b1 + A * x)) := by subst hW7; go_simp
    replace f_q0 : w12.frozen? ⟨w.heap.size + 1 + 1, 0, none⟩ = false := by subst hW7; go_simp
    replace q1 : w12.cell? ⟨w.heap.size + 1 + 1, 1, none⟩ = some (.slice (some ⟨g1, 0, none⟩) s1.length r1) := by subst hW7; go_simp
    replace f_q1 : w12.frozen? ⟨w.heap.size + 1 + 1, 1, none⟩ = false := by subst hW7; go_simp
    replace q2 : w12.cell? ⟨w.heap.size + 1 + 1, 2, none⟩ = some (.slice (some ⟨g2, 0, none⟩) t1.length r2) := by subst hW7; go_simp
    replace f_q2 : w12.frozen? ⟨w.heap.size + 1 + 1, 2, none⟩ = false := by subst hW7; go_simp
    replace y0 := Kw12.cell (by omega) y0
    replace f_y0 := Kw12.frzO (by omega) z_y f_y0
    replace y1 := Kw12.cell (by omega) y1
    replace f_y1 := Kw12.frzO (by omega) z_y f_y1
    replace y2 := Kw12.cell (by omega) y2
    replace f_y2 := Kw12.frzO (by omega) z_y f_y2
    replace O1 := O1.chgN Kw12 (by omega)
    replace O2 := O2.chgN Kw12 (by omega)
    clear Kw12
    have z_q : w.heap.size + 1 + 1 < w12.heap.size := qB q0
    have z_y : w1.heap.size < w12.heap.size := qB y0
    have s_w12 : w.heap.size ≤ w12.heap.size := Xw12.size
    clear hW7
    refine bodyPost_ret (v := .agg #[.int .i64 (b1 + A * x), .slice (some ⟨g1, 0, none⟩) s1.length r1, .slice (some ⟨g2, 0, none⟩) t1.length r2]) (by simp only [results, Try.results146]; go_simp) rfl ?_
    rw [hT.out, hB.out]
    exact PView.own (O1.lower (by omega)).z (O2.lower (by omega)).z (fun _ _ => by simp [Value.ownBlock]; omega) (by unfold cutS; simpa using hlen1) (by simp <;> omega) Xw12
  ·
   have hleI : ¬ (L.length : Int) ≤ 1 := by omega
   by_cases hz : countL (s1.set d (L.length : Int)) = 0
   ·
    have hT : Hid (cutT s1 t1 d L = List.replicate s1.length 0) := Lib.hid (by unfold cutT tidyT; rw [if_pos hz, List.length_set])
    have hB : Hid (cutB b1 s1 t1 d L = 0) := Lib.hid (by unfold cutB tidyB; rw [if_pos hz])
    have hi1 := O1.ints hz1
    have hi2 := O2.ints (by simpa using hz2)
    have hzH := Lib.hid hz
    clear hz hle
    have zq0 := z_q
    have zy0 := z_y
    go_wp2_with fail
    refine (tidy_0 (b1 + A * x) _ _ (s1.set d (L.length : Int)) _ _ (hi1.ext qXt) hzH.out).mono ?_
    rintro e w10 ⟨st, rfl, O3, xw10⟩
    have Lw10 : Ext w9 w10 := Ext.trans qXt xw10
    have Xw10 : Ext w w10 := Xw9.trans Lw10
    replace q0 := Lw10.cell q0
    replace q1 := Lw10.cell q1
    replace q2 := Lw10.cell q2
    replace f_q0 := Lw10.frz z_q f_q0
    replace f_q1 := Lw10.frz z_q f_q1
    replace f_q2 := Lw10.frz z_q f_q2
    replace y0 := Lw10.cell y0
    replace y1 := Lw10.cell y1
    replace y2 := Lw10.cell y2
    replace f_y0 := Lw10.frz z_y f_y0
    replace f_y1 := Lw10.frz z_y f_y1
    replace f_y2 := Lw10.frz z_y f_y2
    have z_q : w.heap.size + 1 + 1 < w10.heap.size := qB q0
    have z_y : w1.heap.size < w10.heap.size := qB y0
    replace O1 := O1.ext Lw10
    replace O2 := O2.ext Lw10
    have s_w10 : w.heap.size ≤ w10.heap.size := Xw10.size
    clear xw10
    have hne3 : List.replicate (s1.set d (L.length : Int)).length (0 : Int) ≠ [] := by simp; exact hne1
    obtain ⟨g3, r3, rfl, G3, G3'⟩ := O3.row hne3
    simp only [List.length_replicate, List.length_set] at O3 ⊢
    have G3b : w.heap.size + 3 ≤ g3 := by omega
    clear hi1 hi2

    go_wp2_with fail
    generalize hW8 : (((w10.setCell ⟨w.heap.size + 1 + 1, 0, none⟩ (.int .i64 0)).setCell ⟨w.heap.size + 1 + 1, 1, none⟩ (.slice (some ⟨g1, 0, none⟩) s1.length r1)).setCell ⟨w.heap.size + 1 + 1, 2, none⟩ (.slice (some ⟨g3, 0, none⟩) s1.length r3)) = w11 at *
    have Kw11 : Chg (w.heap.size + 1 + 1) (w.heap.size + 1 + 1 + 1) w10 w11 := by subst hW8; exact qCh
    have Xw11 : Ext w w11 := by subst hW8; exact qXt
    replace q0 : w11.cell? ⟨w.heap.size + 1 + 1, 0, none⟩ = some (.int .i64 0) := by subst hW8; go_simp
    replace f_q0 : w11.frozen? ⟨w.heap.size + 1 + 1, 0, none⟩ = false := by subst hW8; go_simp
    replace q1 : w11.cell? ⟨w.heap.size + 1 + 1, 1, none⟩ = some (.slice (some ⟨g1, 0, none⟩) s1.length r1) := by subst hW8; go_simp
    replace f_q1 : w11.frozen? ⟨w.heap.size + 1 + 1, 1, none⟩ = false := by subst hW8; go_simp
    replace q2 : w11.cell? ⟨w.heap.size + 1 + 1, 2, none⟩ = some (.slice (some ⟨g3, 0, none⟩) s1.length r3) := by subst hW8; go_simp
    replace f_q2 : w11.frozen? ⟨w.heap.size + 1 + 1, 2, none⟩ = false := by subst hW8; go_simp
    replace y0 := Kw11.cell (by omega) y0
    replace f_y0 := Kw11.frzO (by omega) z_y f_y0
    replace y1 := Kw11.cell (by omega) y1
    replace f_y1 := Kw11.frzO (by omega) z_y f_y1
    replace y2 := Kw11.cell (by omega) y2
    replace f_y2 := Kw11.frzO (by omega) z_y f_y2
    replace O1 := O1.chgN Kw11 (by omega)
    replace O2 := O2.chgN Kw11 (by omega)
    replace O3 := O3.chgN Kw11 (by omega)
    clear Kw11
    have z_q : w.heap.size + 1 + 1 < w11.heap.size := qB q0
    have z_y : w1.heap.size < w11.heap.size := qB y0
    have s_w11 : w.heap.size ≤ w11.heap.size := Xw11.size
    clear hW8
    refine bodyPost_ret (v := .agg #[.int .i64 0, .slice (some ⟨g1, 0, none⟩) s1.length r1, .slice (some ⟨g3, 0, none⟩) s1.length r3]) (by simp only [results, Try.results146]; go_simp) rfl ?_
    rw [hT.out, hB.out]
    exact PView.own (O1.lower (by omega)).z (O3.lower (by omega)).z (fun _ _ => by simp [Value.ownBlock]; omega) (by unfold cutS; simpa using hlen1) (by simp <;> omega) Xw11
   ·
    have hT : Hid (cutT s1 t1 d L = t1.set d (A3 * x)) := Lib.hid (by unfold cutT tidyT; rw [if_neg hz, if_neg hle, hN3.out, hg2.out])
    have hB : Hid (cutB b1 s1 t1 d L = b1 + A * x) := Lib.hid (by unfold cutB tidyB; rw [if_neg hz, hN1.out, hg2.out])
    have hi1 := O1.ints hz1
    have hi2 := O2.ints (by simpa using hz2)
    have hzH := Lib.hid hz
    clear hz hle
    have zq0 := z_q
    have zy0 := z_y
    go_wp2_with fail
    refine (tidy_1 (b1 + A * x) _ _ (s1.set d (L.length : Int)) (t1.set d (A3 * x)) _ _ _ (hi1.ext qXt) (hi2.ext qXt) hzH.out).mono ?_
    rintro e w10 ⟨rfl, xw10⟩
    have Lw10 : Ext w9 w10 := Ext.trans qXt xw10
    have Xw10 : Ext w w10 := Xw9.trans Lw10
    replace q0 := Lw10.cell q0
    replace q1 := Lw10.cell q1
    replace q2 := Lw10.cell q2
    replace f_q0 := Lw10.frz z_q f_q0
    replace f_q1 := Lw10.frz z_q f_q1
    replace f_q2 := Lw10.frz z_q f_q2
    replace y0 := Lw10.cell y0
    replace y1 := Lw10.cell y1
    replace y2 := Lw10.cell y2
    replace f_y0 := Lw10.frz z_y f_y0
    replace f_y1 := Lw10.frz z_y f_y1
    replace f_y2 := Lw10.frz z_y f_y2
    have z_q : w.heap.size + 1 + 1 < w10.heap.size := qB q0
    have z_y : w1.heap.size < w10.heap.size := qB y0
    replace O1 := O1.ext Lw10
    replace O2 := O2.ext Lw10
    have s_w10 : w.heap.size ≤ w10.heap.size := Xw10.size
    clear xw10
    clear hi1 hi2

    go_wp2_with fail
    generalize hW9 : (((w10.setCell ⟨w.heap.size + 1 + 1, 0, none⟩ (.int .i64 (b1 + A * x))).setCell ⟨w.heap.size + 1 + 1, 1, none⟩ (.slice (some ⟨g1, 0, none⟩) s1.length r1)).setCell ⟨w.heap.size + 1 + 1, 2, none⟩ (.slice (some ⟨g2, 0, none⟩) t1.length r2)) = w11 at *
    have Kw11 : Chg (w.heap.size + 1 + 1) (w.heap.size + 1 + 1 + 1) w10 w11 := by subst hW9; exact qCh
    have Xw11 : Ext w w11 := by subst hW9; exact qXt
    replace q0 : w11.cell? ⟨w.heap.size + 1 + 1, 0, none⟩ = some (.int .i64 (b1 + A * x)) := by subst hW9; go_simp
    replace f_q0 : w11.frozen? ⟨w.heap.size + 1 + 1, 0, none⟩ = false := by subst hW9; go_simp
    replace q1 : w11.cell? ⟨w.heap.size + 1 + 1, 1, none⟩ = some (.slice (some ⟨g1, 0, none⟩) s1.length r1) := by subst hW9; go_simp
    replace f_q1 : w11.frozen? ⟨w.heap.size + 1 + 1, 1, none⟩ = false := by subst hW9; go_simp
    replace q2 : w11.cell? ⟨w.heap.size + 1 + 1, 2, none⟩ = some (.slice (some ⟨g2, 0, none⟩) t1.length r2) := by subst hW9; go_simp
    replace f_q2 : w11.frozen? ⟨w.heap.size + 1 + 1, 2, none⟩ = false := by subst hW9; go_simp
    replace y0 := Kw11.cell (by omega) y0
    replace f_y0 := Kw11.frzO (by omega) z_y f_y0
    replace y1 := Kw11.cell (by omega) y1
    replace f_y1 := Kw11.frzO (by omega) z_y f_y1
    replace y2 := Kw11.cell (by omega) y2
    replace f_y2 := Kw11.frzO (by omega) z_y f_y2
    replace O1 := O1.chgN Kw11 (by omega)
    replace O2 := O2.chgN Kw11 (by omega)
    clear Kw11
    have z_q : w.heap.size + 1 + 1 < w11.heap.size := qB q0
    have z_y : w1.heap.size < w11.heap.size := qB y0
    have s_w11 : w.heap.size ≤ w11.heap.size := Xw11.size
    clear hW9
    refine bodyPost_ret (v := .agg #[.int .i64 (b1 + A * x), .slice (some ⟨g1, 0, none⟩) s1.length r1, .slice (some ⟨g2, 0, none⟩) t1.length r2]) (by simp only [results, Try.results146]; go_simp) rfl ?_
    rw [hT.out, hB.out]
    exact PView.own (O1.lower (by omega)).z (O2.lower (by omega)).z (fun _ _ => by simp [Value.ownBlock]; omega) (by unfold cutS; simpa using hlen1) (by simp <;> omega) Xw11

end Go.Proofs.Ytpgkhjmboiepcaa

/- Walks: SliceDim and FlipDim of the reference. -/
namespace Go.Proofs.Ytpgkhjmboiepcaa
open Go.RowKit
set_option linter.unusedVariables false
set_option maxRecDepth 100000


/-- a view with a bool -/
abbrev VBool := Int × List Int × List Int × Bool
def PVB (w : World) (x : VBool) : Ending → World → Prop := PViewB w x.1 x.2.1 x.2.2.1 x.2.2.2
def noV : VBool := (0, [], [], false)
theorem PVB.no {w w' : World} {x : VBool} (h : x = noV) (hx : Ext w w') : PVB w x (.returned (.tuple #[.agg #[.int .i64 0, .slice none 0 0, .slice none 0 0], .bool false])) w' := by
 subst h; exact PViewB.no hx
theorem PVB.yes {w w' : World} {x : VBool} {b : Int} {s t : List Int} {v1 v2 : Value} (h : x = (b, s, t, true)) (o1 : OwnZ w' w.heap.size v1 s) (o2 : OwnZ w' w.heap.size v2 t) (hd : s ≠ [] → t ≠ [] → v1.ownBlock ≠ v2.ownBlock) (l1 : s.length ≤ 4194304) (l2 : t.length ≤ 4194304) (hx : Ext w w') :
  PVB w x (.returned (.tuple #[.agg #[.int .i64 b, v1, v2], .bool true])) w' := by
 subst h; exact ⟨v1, v2, rfl, o1.ints l1, o2.ints l2, o1, o2, hd, hx⟩

def sliceV (b : Int) (s t : List Int) (d F T B : Int) (hf ht : Bool) : VBool :=
 if viewB b s t && (inB 0 ((s.length : Int) - 1) d && sliceB F T B hf ht) then
  (cutB b s t d.toNat (idxS (s.getD d.toNat 0) F T B hf ht), cutS s d.toNat (idxS (s.getD d.toNat 0) F T B hf ht), cutT s t d.toNat (idxS (s.getD d.toNat 0) F T B hf ht), true)
 else noV
theorem sliceV_view {b : Int} {s t : List Int} {d F T B : Int} {hf ht : Bool} (h : viewB b s t = true) (hd : 0 ≤ d ∧ d < s.length) (hs : sliceB F T B hf ht = true) :
  viewB (cutB b s t d.toNat (idxS (s.getD d.toNat 0) F T B hf ht)) (cutS s d.toNat (idxS (s.getD d.toNat 0) F T B hf ht)) (cutT s t d.toNat (idxS (s.getD d.toNat 0) F T B hf ht)) = true := by
 have hn := (shapeB_in (viewB_in h).1).2.1 _ (getD_mem (s := s) (d := d.toNat) (by omega))
 exact (cut_view h (by omega) (sliceB_in hs).2.2.2 (idxS_in hn.1 (sliceB_in hs).2.2.2)).1
theorem sliceV_yes {b : Int} {s t : List Int} {d F T B : Int} {hf ht : Bool} {L : List Int} (h : viewB b s t = true) (hb : inB 0 ((s.length : Int) - 1) d = true) (hs : sliceB F T B hf ht = true) (hL : idxS (s.getD d.toNat 0) F T B hf ht = L) :
  sliceV b s t d F T B hf ht = (cutB b s t d.toNat L, cutS s d.toNat L, cutT s t d.toNat L, true) := by
 unfold sliceV; rw [h, hb, hs, ← hL]; rfl

set_option maxHeartbeats 3200000 in
theorem specSliceDim_c (b1 : Int) (u1 v1 : Value) (s1 t1 : List Int) (d F T B : Int) (hf ht : Bool) (w : World) (l1 m1 : Nat) (h1 : Ints w l1 u1 s1) (k1 : Ints w m1 v1 t1) :
  Calls Try.prog 124 #[.agg #[.int .i64 b1, u1, v1], .int .i64 d, .agg #[.int .i64 F, .int .i64 T, .int .i64 B, .bool hf, .bool ht]] w (PVB w (sliceV b1 s1 t1 d F T B hf ht)) := by
 have hlen1 := ints_len h1
 have hlen2 := ints_len k1
 obtain ⟨a1, cp1, rfl⟩ := h1.form
 obtain ⟨a2, cp2, rfl⟩ := k1.form
 cases ha : viewB b1 s1 t1
 ·
  have hr : Hid (sliceV b1 s1 t1 d F T B hf ht = noV) := Lib.hid (by unfold sliceV; rw [ha]; rfl)
  replace ha := Lib.hid ha
  go_enter Try.func124, Try.ntmps124
  go_wp2_with fail
  refine (validView_c b1 _ _ s1 t1 _ l1 m1 (h1.ext qXt) (k1.ext qXt)).mono ?_
  rintro e w1 ⟨rfl, xw1⟩
  have Lw1 : Ext w w1 := Ext.trans qXt xw1
  have Xw1 : Ext w w1 := Lw1
  have va0 : w1.cell? ⟨w.heap.size, 0, none⟩ = some (.int .i64 b1) := xw1.cell qCl
  have va1 : w1.cell? ⟨w.heap.size, 1, none⟩ = some (.slice a1 s1.length cp1) := xw1.cell qCl
  have va2 : w1.cell? ⟨w.heap.size, 2, none⟩ = some (.slice a2 t1.length cp2) := xw1.cell qCl
  have sl0 : w1.cell? ⟨w.heap.size + 1, 0, none⟩ = some (.int .i64 F) := xw1.cell qCl
  have sl1 : w1.cell? ⟨w.heap.size + 1, 1, none⟩ = some (.int .i64 T) := xw1.cell qCl
  have sl2 : w1.cell? ⟨w.heap.size + 1, 2, none⟩ = some (.int .i64 B) := xw1.cell qCl
  have sl3 : w1.cell? ⟨w.heap.size + 1, 3, none⟩ = some (.bool hf) := xw1.cell qCl
  have sl4 : w1.cell? ⟨w.heap.size + 1, 4, none⟩ = some (.bool ht) := xw1.cell qCl
  have q0 : w1.cell? ⟨w.heap.size + 1 + 1, 0, none⟩ = some (.int .i64 0) := xw1.cell qCl
  have q1 : w1.cell? ⟨w.heap.size + 1 + 1, 1, none⟩ = some (.slice none 0 0) := xw1.cell qCl
  have q2 : w1.cell? ⟨w.heap.size + 1 + 1, 2, none⟩ = some (.slice none 0 0) := xw1.cell qCl
  have f_q0 : w1.frozen? ⟨w.heap.size + 1 + 1, 0, none⟩ = false := xw1.frz (by simp <;> omega) qFz
  have f_q1 : w1.frozen? ⟨w.heap.size + 1 + 1, 1, none⟩ = false := xw1.frz (by simp <;> omega) qFz
  have f_q2 : w1.frozen? ⟨w.heap.size + 1 + 1, 2, none⟩ = false := xw1.frz (by simp <;> omega) qFz
  have z_va : w.heap.size < w1.heap.size := qB va0
  have z_sl : w.heap.size + 1 < w1.heap.size := qB sl0
  have z_q : w.heap.size + 1 + 1 < w1.heap.size := qB q0
  have s_w1 : w.heap.size ≤ w1.heap.size := Xw1.size
  clear xw1
  rw [ha.out]
  go_wp2_with fail
  refine bodyPost_ret (v := .tuple #[.agg #[.int .i64 0, .slice none 0 0, .slice none 0 0], .bool false]) (by simp only [results, Try.results124]; go_simp) rfl ?_
  exact PVB.no hr.out qXt
 ·
  cases hb : inB 0 ((s1.length : Int) - 1) d
  ·
   have hr : Hid (sliceV b1 s1 t1 d F T B hf ht = noV) := Lib.hid (by unfold sliceV; rw [ha, hb]; rfl)
   obtain ⟨j1, -⟩ := viewB_in ha
   have j4 := (shapeB_in j1).1
   replace ha := Lib.hid ha
   replace hb := Lib.hid hb
   clear j1
   go_enter Try.func124, Try.ntmps124
   go_wp2_with fail
   refine (validView_c b1 _ _ s1 t1 _ l1 m1 (h1.ext qXt) (k1.ext qXt)).mono ?_
   rintro e w1 ⟨rfl, xw1⟩
   have Lw1 : Ext w w1 := Ext.trans qXt xw1
   have Xw1 : Ext w w1 := Lw1
   have va0 : w1.cell? ⟨w.heap.size, 0, none⟩ = some (.int .i64 b1) := xw1.cell qCl
   have va1 : w1.cell? ⟨w.heap.size, 1, none⟩ = some (.slice a1 s1.length cp1) := xw1.cell qCl
   have va2 : w1.cell? ⟨w.heap.size, 2, none⟩ = some (.slice a2 t1.length cp2) := xw1.cell qCl
   have sl0 : w1.cell? ⟨w.heap.size + 1, 0, none⟩ = some (.int .i64 F) := xw1.cell qCl
   have sl1 : w1.cell? ⟨w.heap.size + 1, 1, none⟩ = some (.int .i64 T) := xw1.cell qCl
   have sl2 : w1.cell? ⟨w.heap.size + 1, 2, none⟩ = some (.int .i64 B) := xw1.cell qCl
   have sl3 : w1.cell? ⟨w.heap.size + 1, 3, none⟩ = some (.bool hf) := xw1.cell qCl
   have sl4 : w1.cell? ⟨w.heap.size + 1, 4, none⟩ = some (.bool ht) := xw1.cell qCl
   have q0 : w1.cell? ⟨w.heap.size + 1 + 1, 0, none⟩ = some (.int .i64 0) := xw1.cell qCl
   have q1 : w1.cell? ⟨w.heap.size + 1 + 1, 1, none⟩ = some (.slice none 0 0) := xw1.cell qCl
   have q2 : w1.cell? ⟨w.heap.size + 1 + 1, 2, none⟩ = some (.slice none 0 0) := xw1.cell qCl
   have f_q0 : w1.frozen? ⟨w.heap.size + 1 + 1, 0, none⟩ = false := xw1.frz (by simp <;> omega) qFz
   have f_q1 : w1.frozen? ⟨w.heap.size + 1 + 1, 1, none⟩ = false := xw1.frz (by simp <;> omega) qFz
   have f_q2 : w1.frozen? ⟨w.heap.size + 1 + 1, 2, none⟩ = false := xw1.frz (by simp <;> omega) qFz
   have z_va : w.heap.size < w1.heap.size := qB va0
   have z_sl : w.heap.size + 1 < w1.heap.size := qB sl0
   have z_q : w.heap.size + 1 + 1 < w1.heap.size := qB q0
   have s_w1 : w.heap.size ≤ w1.heap.size := Xw1.size
   clear xw1
   rw [ha.out]
   go_wp2_with fail
   refine (isDim_c b1 _ _ s1 t1 d _ l1 m1 (h1.ext (Xw1.trans qXt)) (k1.ext (Xw1.trans qXt)) (by omega)).mono ?_
   rintro e w2 ⟨rfl, xw2⟩
   have Lw2 : Ext w1 w2 := Ext.trans qXt xw2
   have Xw2 : Ext w w2 := Xw1.trans Lw2
   replace va0 := Lw2.cell va0
   replace va1 := Lw2.cell va1
   replace va2 := Lw2.cell va2
   replace sl0 := Lw2.cell sl0
   replace sl1 := Lw2.cell sl1
   replace sl2 := Lw2.cell sl2
   replace sl3 := Lw2.cell sl3
   replace sl4 := Lw2.cell sl4
   replace q0 := Lw2.cell q0
   replace q1 := Lw2.cell q1
   replace q2 := Lw2.cell q2
   replace f_q0 := Lw2.frz z_q f_q0
   replace f_q1 := Lw2.frz z_q f_q1
   replace f_q2 := Lw2.frz z_q f_q2
   have z_va : w.heap.size < w2.heap.size := qB va0
   have z_sl : w.heap.size + 1 < w2.heap.size := qB sl0
   have z_q : w.heap.size + 1 + 1 < w2.heap.size := qB q0
   have s_w2 : w.heap.size ≤ w2.heap.size := Xw2.size
   clear xw2
   rw [hb.out]
   go_wp2_with fail
   refine bodyPost_ret (v := .tuple #[.agg #[.int .i64 0, .slice none 0 0, .slice none 0 0], .bool false]) (by simp only [results, Try.results124]; go_simp) rfl ?_
   exact PVB.no hr.out qXt
  ·
   obtain ⟨j1, -⟩ := viewB_in ha
   have j4 := (shapeB_in j1).1
   clear j1
   cases hc : sliceB F T B hf ht
   ·
    have hr : Hid (sliceV b1 s1 t1 d F T B hf ht = noV) := Lib.hid (by unfold sliceV; rw [ha, hb, hc]; rfl)
    replace ha := Lib.hid ha
    replace hb := Lib.hid hb
    replace hc := Lib.hid hc
    go_enter Try.func124, Try.ntmps124
    go_wp2_with fail
    refine (validView_c b1 _ _ s1 t1 _ l1 m1 (h1.ext qXt) (k1.ext qXt)).mono ?_
    rintro e w1 ⟨rfl, xw1⟩
    have Lw1 : Ext w w1 := Ext.trans qXt xw1
    have Xw1 : Ext w w1 := Lw1
    have va0 : w1.cell? ⟨w.heap.size, 0, none⟩ = some (.int .i64 b1) := xw1.cell qCl
    have va1 : w1.cell? ⟨w.heap.size, 1, none⟩ = some (.slice a1 s1.length cp1) := xw1.cell qCl
    have va2 : w1.cell? ⟨w.heap.size, 2, none⟩ = some (.slice a2 t1.length cp2) := xw1.cell qCl
    have sl0 : w1.cell? ⟨w.heap.size + 1, 0, none⟩ = some (.int .i64 F) := xw1.cell qCl
    have sl1 : w1.cell? ⟨w.heap.size + 1, 1, none⟩ = some (.int .i64 T) := xw1.cell qCl
    have sl2 : w1.cell? ⟨w.heap.size + 1, 2, none⟩ = some (.int .i64 B) := xw1.cell qCl
    have sl3 : w1.cell? ⟨w.heap.size + 1, 3, none⟩ = some (.bool hf) := xw1.cell qCl
    have sl4 : w1.cell? ⟨w.heap.size + 1, 4, none⟩ = some (.bool ht) := xw1.cell qCl
    have q0 : w1.cell? ⟨w.heap.size + 1 + 1, 0, none⟩ = some (.int .i64 0) := xw1.cell qCl
    have q1 : w1.cell? ⟨w.heap.size + 1 + 1, 1, none⟩ = some (.slice none 0 0) := xw1.cell qCl
    have q2 : w1.cell? ⟨w.heap.size + 1 + 1, 2, none⟩ = some (.slice none 0 0) := xw1.cell qCl
    have f_q0 : w1.frozen? ⟨w.heap.size + 1 + 1, 0, none⟩ = false := xw1.frz (by simp <;> omega) qFz
    have f_q1 : w1.frozen? ⟨w.heap.size + 1 + 1, 1, none⟩ = false := xw1.frz (by simp <;> omega) qFz
    have f_q2 : w1.frozen? ⟨w.heap.size + 1 + 1, 2, none⟩ = false := xw1.frz (by simp <;> omega) qFz
    have z_va : w.heap.size < w1.heap.size := qB va0
    have z_sl : w.heap.size + 1 < w1.heap.size := qB sl0
    have z_q : w.heap.size + 1 + 1 < w1.heap.size := qB q0
    have s_w1 : w.heap.size ≤ w1.heap.size := Xw1.size
    clear xw1
    rw [ha.out]
    go_wp2_with fail
    refine (isDim_c b1 _ _ s1 t1 d _ l1 m1 (h1.ext (Xw1.trans qXt)) (k1.ext (Xw1.trans qXt)) (by omega)).mono ?_
    rintro e w2 ⟨rfl, xw2⟩
    have Lw2 : Ext w1 w2 := Ext.trans qXt xw2
    have Xw2 : Ext w w2 := Xw1.trans Lw2
    replace va0 := Lw2.cell va0
    replace va1 := Lw2.cell va1
    replace va2 := Lw2.cell va2
    replace sl0 := Lw2.cell sl0
    replace sl1 := Lw2.cell sl1
    replace sl2 := Lw2.cell sl2
    replace sl3 := Lw2.cell sl3
    replace sl4 := Lw2.cell sl4
    replace q0 := Lw2.cell q0
    replace q1 := Lw2.cell q1
    replace q2 := Lw2.cell q2
    replace f_q0 := Lw2.frz z_q f_q0
    replace f_q1 := Lw2.frz z_q f_q1
    replace f_q2 := Lw2.frz z_q f_q2
    have z_va : w.heap.size < w2.heap.size := qB va0
    have z_sl : w.heap.size + 1 < w2.heap.size := qB sl0
    have z_q : w.heap.size + 1 + 1 < w2.heap.size := qB q0
    have s_w2 : w.heap.size ≤ w2.heap.size := Xw2.size
    clear xw2
    rw [hb.out]
    go_wp2_with fail
    refine (validSlice_c F T B hf ht _).mono ?_
    rintro e w3 ⟨rfl, xw3⟩
    have Lw3 : Ext w2 w3 := Ext.trans qXt xw3
    have Xw3 : Ext w w3 := Xw2.trans Lw3
    replace va0 := Lw3.cell va0
    replace va1 := Lw3.cell va1
    replace va2 := Lw3.cell va2
    replace sl0 := Lw3.cell sl0
    replace sl1 := Lw3.cell sl1
    replace sl2 := Lw3.cell sl2
    replace sl3 := Lw3.cell sl3
    replace sl4 := Lw3.cell sl4
    replace q0 := Lw3.cell q0
    replace q1 := Lw3.cell q1
    replace q2 := Lw3.cell q2
    replace f_q0 := Lw3.frz z_q f_q0
    replace f_q1 := Lw3.frz z_q f_q1
    replace f_q2 := Lw3.frz z_q f_q2
    have z_va : w.heap.size < w3.heap.size := qB va0
    have z_sl : w.heap.size + 1 < w3.heap.size := qB sl0
    have z_q : w.heap.size + 1 + 1 < w3.heap.size := qB q0
    have s_w3 : w.heap.size ≤ w3.heap.size := Xw3.size
    clear xw3
    rw [hc.out]
    go_wp2_with fail
    refine bodyPost_ret (v := .tuple #[.agg #[.int .i64 0, .slice none 0 0, .slice none 0 0], .bool false]) (by simp only [results, Try.results124]; go_simp) rfl ?_
    exact PVB.no hr.out qXt
   ·
    have hd : 0 ≤ d ∧ d < s1.length := by simp [inB] at hb; omega
    obtain ⟨L, hL⟩ : ∃ L, Hid (idxS (s1.getD d.toNat 0) F T B hf ht = L) := ⟨_, Lib.hid rfl⟩
    have hv := sliceV_view ha hd hc
    have hr := sliceV_yes ha hb hc hL.out
    rw [hL.out] at hv
    have hcut : ∀ W, Ext w W → Calls Try.prog 146 #[.agg #[.int .i64 b1, .slice a1 s1.length cp1, .slice a2 t1.length cp2], .int .i64 (d.toNat : Int), .agg #[.int .i64 F, .int .i64 T, .int .i64 B, .bool hf, .bool ht]] W (PView W (cutB b1 s1 t1 d.toNat L) (cutS s1 d.toNat L) (cutT s1 t1 d.toNat L)) :=
     fun W hW => cutDim_c b1 _ _ s1 t1 d.toNat F T B hf ht L W l1 m1 (h1.ext hW) (k1.ext hW) ha (by omega) hc hL.out
    rw [Int.toNat_of_nonneg hd.1] at hcut
    replace hv := Lib.hid hv
    generalize cutB b1 s1 t1 d.toNat L = cb at *
    generalize cutS s1 d.toNat L = cs at *
    generalize cutT s1 t1 d.toNat L = ct at *
    replace hcut := Lib.hid hcut
    replace hr := Lib.hid hr
    replace ha := Lib.hid ha
    replace hb := Lib.hid hb
    replace hc := Lib.hid hc
    go_enter Try.func124, Try.ntmps124
    go_wp2_with fail
    refine (validView_c b1 _ _ s1 t1 _ l1 m1 (h1.ext qXt) (k1.ext qXt)).mono ?_
    rintro e w1 ⟨rfl, xw1⟩
    have Lw1 : Ext w w1 := Ext.trans qXt xw1
    have Xw1 : Ext w w1 := Lw1
    have va0 : w1.cell? ⟨w.heap.size, 0, none⟩ = some (.int .i64 b1) := xw1.cell qCl
    have va1 : w1.cell? ⟨w.heap.size, 1, none⟩ = some (.slice a1 s1.length cp1) := xw1.cell qCl
    have va2 : w1.cell? ⟨w.heap.size, 2, none⟩ = some (.slice a2 t1.length cp2) := xw1.cell qCl
    have sl0 : w1.cell? ⟨w.heap.size + 1, 0, none⟩ = some (.int .i64 F) := xw1.cell qCl
    have sl1 : w1.cell? ⟨w.heap.size + 1, 1, none⟩ = some (.int .i64 T) := xw1.cell qCl
    have sl2 : w1.cell? ⟨w.heap.size + 1, 2, none⟩ = some (.int .i64 B) := xw1.cell qCl
    have sl3 : w1.cell? ⟨w.heap.size + 1, 3, none⟩ = some (.bool hf) := xw1.cell qCl
    have sl4 : w1.cell? ⟨w.heap.size + 1, 4, none⟩ = some (.bool ht) := xw1.cell qCl
    have q0 : w1.cell? ⟨w.heap.size + 1 + 1, 0, none⟩ = some (.int .i64 0) := xw1.cell qCl
    have q1 : w1.cell? ⟨w.heap.size + 1 + 1, 1, none⟩ = some (.slice none 0 0) := xw1.cell qCl
    have q2 : w1.cell? ⟨w.heap.size + 1 + 1, 2, none⟩ = some (.slice none 0 0) := xw1.cell qCl
    have f_q0 : w1.frozen? ⟨w.heap.size + 1 + 1, 0, none⟩ = false := xw1.frz (by simp <;> omega) qFz
    have f_q1 : w1.frozen? ⟨w.heap.size + 1 + 1, 1, none⟩ = false := xw1.frz (by simp <;> omega) qFz
    have f_q2 : w1.frozen? ⟨w.heap.size + 1 + 1, 2, none⟩ = false := xw1.frz (by simp <;> omega) qFz
    have z_va : w.heap.size < w1.heap.size := qB va0
    have z_sl : w.heap.size + 1 < w1.heap.size := qB sl0
    have z_q : w.heap.size + 1 + 1 < w1.heap.size := qB q0
    have s_w1 : w.heap.size ≤ w1.heap.size := Xw1.size
    clear xw1
    rw [ha.out]
    go_wp2_with fail
    refine (isDim_c b1 _ _ s1 t1 d _ l1 m1 (h1.ext (Xw1.trans qXt)) (k1.ext (Xw1.trans qXt)) (by omega)).mono ?_
    rintro e w2 ⟨rfl, xw2⟩
    have Lw2 : Ext w1 w2 := Ext.trans qXt xw2
    have Xw2 : Ext w w2 := Xw1.trans Lw2
    replace va0 := Lw2.cell va0
    replace va1 := Lw2.cell va1
    replace va2 := Lw2.cell va2
    replace sl0 := Lw2.cell sl0
    replace sl1 := Lw2.cell sl1
    replace sl2 := Lw2.cell sl2
    replace sl3 := Lw2.cell sl3
    replace sl4 := Lw2.cell sl4
    replace q0 := Lw2.cell q0
    replace q1 := Lw2.cell q1
    replace q2 := Lw2.cell q2
    replace f_q0 := Lw2.frz z_q f_q0
    replace f_q1 := Lw2.frz z_q f_q1
    replace f_q2 := Lw2.frz z_q f_q2
    have z_va : w.heap.size < w2.heap.size := qB va0
    have z_sl : w.heap.size + 1 < w2.heap.size := qB sl0
    have z_q : w.heap.size + 1 + 1 < w2.heap.size := qB q0
    have s_w2 : w.heap.size ≤ w2.heap.size := Xw2.size
    clear xw2
    rw [hb.out]
    go_wp2_with fail
    refine (validSlice_c F T B hf ht _).mono ?_
    rintro e w3 ⟨rfl, xw3⟩
    have Lw3 : Ext w2 w3 := Ext.trans qXt xw3
    have Xw3 : Ext w w3 := Xw2.trans Lw3
    replace va0 := Lw3.cell va0
    replace va1 := Lw3.cell va1
    replace va2 := Lw3.cell va2
    replace sl0 := Lw3.cell sl0
    replace sl1 := Lw3.cell sl1
    replace sl2 := Lw3.cell sl2
    replace sl3 := Lw3.cell sl3
    replace sl4 := Lw3.cell sl4
    replace q0 := Lw3.cell q0
    replace q1 := Lw3.cell q1
    replace q2 := Lw3.cell q2
    replace f_q0 := Lw3.frz z_q f_q0
    replace f_q1 := Lw3.frz z_q f_q1
    replace f_q2 := Lw3.frz z_q f_q2
    have z_va : w.heap.size < w3.heap.size := qB va0
    have z_sl : w.heap.size + 1 < w3.heap.size := qB sl0
    have z_q : w.heap.size + 1 + 1 < w3.heap.size := qB q0
    have s_w3 : w.heap.size ≤ w3.heap.size := Xw3.size
    clear xw3
    rw [hc.out]
    go_wp2_with fail
    refine (hcut.out _ (Xw3.trans qXt)).mono ?_
    rintro e w4 ⟨x1, x2, rfl, i1, i2, -, -, -, xw4⟩
    have Lw4 : Ext w3 w4 := Ext.trans qXt xw4
    have Xw4 : Ext w w4 := Xw3.trans Lw4
    replace va0 := Lw4.cell va0
    replace va1 := Lw4.cell va1
    replace va2 := Lw4.cell va2
    replace sl0 := Lw4.cell sl0
    replace sl1 := Lw4.cell sl1
    replace sl2 := Lw4.cell sl2
    replace sl3 := Lw4.cell sl3
    replace sl4 := Lw4.cell sl4
    replace q0 := Lw4.cell q0
    replace q1 := Lw4.cell q1
    replace q2 := Lw4.cell q2
    replace f_q0 := Lw4.frz z_q f_q0
    replace f_q1 := Lw4.frz z_q f_q1
    replace f_q2 := Lw4.frz z_q f_q2
    have z_va : w.heap.size < w4.heap.size := qB va0
    have z_sl : w.heap.size + 1 < w4.heap.size := qB sl0
    have z_q : w.heap.size + 1 + 1 < w4.heap.size := qB q0
    have s_w4 : w.heap.size ≤ w4.heap.size := Xw4.size
    clear xw4
    go_wp2_with fail
    refine (made_1 _ _ _ _ _ _ _ _ (i1.ext qXt) (i2.ext qXt) hv.out).mono ?_
    rintro e w5 ⟨y1, y2, rfl, j1, j2, o1, o2, od, xw5⟩
    have Lw5 : Ext w4 w5 := Ext.trans qXt xw5
    have Xw5 : Ext w w5 := Xw4.trans Lw5
    replace va0 := Lw5.cell va0
    replace va1 := Lw5.cell va1
    replace va2 := Lw5.cell va2
    replace sl0 := Lw5.cell sl0
    replace sl1 := Lw5.cell sl1
    replace sl2 := Lw5.cell sl2
    replace sl3 := Lw5.cell sl3
    replace sl4 := Lw5.cell sl4
    replace q0 := Lw5.cell q0
    replace q1 := Lw5.cell q1
    replace q2 := Lw5.cell q2
    replace f_q0 := Lw5.frz z_q f_q0
    replace f_q1 := Lw5.frz z_q f_q1
    replace f_q2 := Lw5.frz z_q f_q2
    have z_va : w.heap.size < w5.heap.size := qB va0
    have z_sl : w.heap.size + 1 < w5.heap.size := qB sl0
    have z_q : w.heap.size + 1 + 1 < w5.heap.size := qB q0
    replace i1 := i1.ext Lw5
    replace i2 := i2.ext Lw5
    have s_w5 : w.heap.size ≤ w5.heap.size := Xw5.size
    clear xw5
    have hl1 := ints_len j1
    have hl2 := ints_len j2
    clear i1 i2
    obtain ⟨p1, n1, r1, rfl⟩ := o1.form
    obtain ⟨p2, n2, r2, rfl⟩ := o2.form
    go_wp2_with fail
    generalize hW1 : (((w5.setCell ⟨w.heap.size + 1 + 1, 0, none⟩ (.int .i64 cb)).setCell ⟨w.heap.size + 1 + 1, 1, none⟩ (.slice p1 n1 r1)).setCell ⟨w.heap.size + 1 + 1, 2, none⟩ (.slice p2 n2 r2)) = w6 at *
    have Kw6 : Chg (w.heap.size + 1 + 1) (w.heap.size + 1 + 1 + 1) w5 w6 := by subst hW1; exact qCh
    have Xw6 : Ext w w6 := by subst hW1; exact qXt
    replace va0 := Kw6.cell (by omega) va0
    replace va1 := Kw6.cell (by omega) va1
    replace va2 := Kw6.cell (by omega) va2
    replace sl0 := Kw6.cell (by omega) sl0
    replace sl1 := Kw6.cell (by omega) sl1
    replace sl2 := Kw6.cell (by omega) sl2
    replace sl3 := Kw6.cell (by omega) sl3
    replace sl4 := Kw6.cell (by omega) sl4
    replace q0 : w6.cell? ⟨w.heap.size + 1 + 1, 0, none⟩ = some (.int .i64 cb) := by subst hW1; go_simp
    replace f_q0 : w6.frozen? ⟨w.heap.size + 1 + 1, 0, none⟩ = false := by subst hW1; go_simp
    replace q1 : w6.cell? ⟨w.heap.size + 1 + 1, 1, none⟩ = some (.slice p1 n1 r1) := by subst hW1; go_simp
    replace f_q1 : w6.frozen? ⟨w.heap.size + 1 + 1, 1, none⟩ = false := by subst hW1; go_simp
    replace q2 : w6.cell? ⟨w.heap.size + 1 + 1, 2, none⟩ = some (.slice p2 n2 r2) := by subst hW1; go_simp
    replace f_q2 : w6.frozen? ⟨w.heap.size + 1 + 1, 2, none⟩ = false := by subst hW1; go_simp
    replace o1 := o1.chg Kw6 (by omega)
    replace o2 := o2.chg Kw6 (by omega)
    clear Kw6
    have z_va : w.heap.size < w6.heap.size := qB va0
    have z_sl : w.heap.size + 1 < w6.heap.size := qB sl0
    have z_q : w.heap.size + 1 + 1 < w6.heap.size := qB q0
    have s_w6 : w.heap.size ≤ w6.heap.size := Xw6.size
    clear hW1
    refine bodyPost_ret (v := .tuple #[.agg #[.int .i64 cb, .slice p1 n1 r1, .slice p2 n2 r2], .bool true]) (by simp only [results, Try.results124]; go_simp) rfl ?_
    clear hL hcut hv
    exact PVB.yes hr.out (o1.lower (by omega)) (o2.lower (by omega)) od hl1 hl2 Xw6

end Go.Proofs.Ytpgkhjmboiepcaa

/- Walks: permuted of the reference. -/
namespace Go.Proofs.Ytpgkhjmboiepcaa
open Go.RowKit
set_option linter.unusedVariables false
set_option maxRecDepth 100000

set_option maxHeartbeats 6400000 in
theorem permuted_c (b1 : Int) (u1 v1 : Value) (s1 t1 : List Int) (a3 : Value) (ord : List Int) (w : World) (l1 m1 : Nat) (h1 : Ints w l1 u1 s1) (k1 : Ints w m1 v1 t1) (l3 : Nat) (h3 : Ints w l3 a3 ord) (hb : ∀ x ∈ ord, 0 ≤ x ∧ x < s1.length) (ht : t1.length = s1.length) (hn : ord.length ≤ 1000) :
  Calls Try.prog 148 #[.agg #[.int .i64 b1, u1, v1], a3] w (PView w b1 (takL s1 ord) (takL t1 ord)) := by
 have hlen1 := ints_len h1
 obtain ⟨a1, cp1, rfl⟩ := h1.form
 obtain ⟨a2, cp2, rfl⟩ := k1.form
 obtain ⟨a4, cp4, rfl⟩ := h3.form
 replace ht := Lib.hid ht
 replace hb := Lib.hid hb
 go_enter Try.func148, Try.ntmps148
 go_wp2_with fail
 generalize hW1 : ((w.alloc (.cells #[.int .i64 b1, .slice a1 s1.length cp1, .slice a2 t1.length cp2] 25)).alloc (.cells #[.int .i64 0, .slice none 0 0, .slice none 0 0] 25)).alloc (.cells #[.int .i64 b1, .slice none 0 0, .slice none 0 0] 25) = w1 at *
 have Lw1 : Ext w w1 := by subst hW1; exact qXt
 have Xw1 : Ext w w1 := by subst hW1; exact Lw1
 have va0 : w1.cell? ⟨w.heap.size, 0, none⟩ = some (.int .i64 b1) := by subst hW1; exact qCl
 have va1 : w1.cell? ⟨w.heap.size, 1, none⟩ = some (.slice a1 s1.length cp1) := by subst hW1; exact qCl
 have va2 : w1.cell? ⟨w.heap.size, 2, none⟩ = some (.slice a2 t1.length cp2) := by subst hW1; exact qCl
 have q0 : w1.cell? ⟨w.heap.size + 1, 0, none⟩ = some (.int .i64 0) := by subst hW1; exact qCl
 have q1 : w1.cell? ⟨w.heap.size + 1, 1, none⟩ = some (.slice none 0 0) := by subst hW1; exact qCl
 have q2 : w1.cell? ⟨w.heap.size + 1, 2, none⟩ = some (.slice none 0 0) := by subst hW1; exact qCl
 have f_q0 : w1.frozen? ⟨w.heap.size + 1, 0, none⟩ = false := by subst hW1; exact qFz
 have f_q1 : w1.frozen? ⟨w.heap.size + 1, 1, none⟩ = false := by subst hW1; exact qFz
 have f_q2 : w1.frozen? ⟨w.heap.size + 1, 2, none⟩ = false := by subst hW1; exact qFz
 have ou0 : w1.cell? ⟨w.heap.size + 1 + 1, 0, none⟩ = some (.int .i64 b1) := by subst hW1; exact qCl
 have ou1 : w1.cell? ⟨w.heap.size + 1 + 1, 1, none⟩ = some (.slice none 0 0) := by subst hW1; exact qCl
 have ou2 : w1.cell? ⟨w.heap.size + 1 + 1, 2, none⟩ = some (.slice none 0 0) := by subst hW1; exact qCl
 have f_ou0 : w1.frozen? ⟨w.heap.size + 1 + 1, 0, none⟩ = false := by subst hW1; exact qFz
 have f_ou1 : w1.frozen? ⟨w.heap.size + 1 + 1, 1, none⟩ = false := by subst hW1; exact qFz
 have f_ou2 : w1.frozen? ⟨w.heap.size + 1 + 1, 2, none⟩ = false := by subst hW1; exact qFz
 have z_va : w.heap.size < w1.heap.size := qB va0
 have z_q : w.heap.size + 1 < w1.heap.size := qB q0
 have z_ou : w.heap.size + 1 + 1 < w1.heap.size := qB ou0
 have s_w1 : w.heap.size ≤ w1.heap.size := Xw1.size
 clear hW1
 go_loopw [6] (fun i wr => ∃ (j : Nat) (p1 p2 : Value), j ≤ ord.length ∧ i = .int .i64 j ∧ Two (w.heap.size + 3) wr p1 p2 (takL s1 (ord.take j)) (takL t1 (ord.take j)) ∧ Ext w wr ∧ wr.cell? ⟨w.heap.size, 0, none⟩ = some (.int .i64 b1) ∧ wr.cell? ⟨w.heap.size, 1, none⟩ = some (.slice a1 s1.length cp1) ∧ wr.cell? ⟨w.heap.size, 2, none⟩ = some (.slice a2 t1.length cp2) ∧ wr.cell? ⟨w.heap.size + 1, 0, none⟩ = some (.int .i64 0) ∧ wr.cell? ⟨w.heap.size + 1, 1, none⟩ = some (.slice none 0 0) ∧ wr.cell? ⟨w.heap.size + 1, 2, none⟩ = some (.slice none 0 0) ∧ wr.frozen? ⟨w.heap.size + 1, 0, none⟩ = false ∧ wr.frozen? ⟨w.heap.size + 1, 1, none⟩ = false ∧ wr.frozen? ⟨w.heap.size + 1, 2, none⟩ = false ∧ wr.cell? ⟨w.heap.size + 1 + 1, 0, none⟩ = some (.int .i64 b1) ∧ wr.cell? ⟨w.heap.size + 1 + 1, 1, none⟩ = some (p1) ∧ wr.cell? ⟨w.heap.size + 1 + 1, 2, none⟩ = some (p2) ∧ wr.frozen? ⟨w.heap.size + 1 + 1, 0, none⟩ = false ∧ wr.frozen? ⟨w.heap.size + 1 + 1, 1, none⟩ = false ∧ wr.frozen? ⟨w.heap.size + 1 + 1, 2, none⟩ = false) (fun i _ => ord.length - (intOf i).toNat)
 case atStart => exact ⟨0, _, _, Nat.zero_le _, rfl, by simpa [takL] using Two.nil (by omega), Xw1, va0, va1, va2, q0, q1, q2, f_q0, f_q1, f_q2, ou0, ou1, ou2, f_ou0, f_ou1, f_ou2⟩
 case round =>
  obtain ⟨j, p1, p2, hj, rfl, T, Xr, va0, va1, va2, q0, q1, q2, f_q0, f_q1, f_q2, ou0, ou1, ou2, f_ou0, f_ou1, f_ou2⟩ := hrel
  have hTs := T.size
  by_cases hlt : j < ord.length
  ·
   have hI : (j : Int) < ord.length := by omega
   obtain ⟨hm0, hm1⟩ := hb.out _ (getD_mem hlt)
   obtain ⟨b3, o3, rfl, hc3⟩ := h3.at j hlt
   obtain ⟨m, hm⟩ : ∃ m : Nat, ord.getD j 0 = m := ⟨(ord.getD j 0).toNat, by omega⟩
   obtain ⟨b1s, o1s, rfl, hc1⟩ := h1.at m (by omega)
   obtain ⟨b2s, o2s, rfl, hc2⟩ := k1.at m (by have := ht.out; omega)
   have htI : (m : Int) < t1.length := by have := ht.out; omega
   have hs1 : takL s1 (ord.take (j+1)) = takL s1 (ord.take j) ++ [s1.getD m 0] := by rw [takL_take _ _ _ hlt]; simp only [← getD_get hlt, hm, Int.toNat_natCast]
   have hs2 : takL t1 (ord.take (j+1)) = takL t1 (ord.take j) ++ [t1.getD m 0] := by rw [takL_take _ _ _ hlt]; simp only [← getD_get hlt, hm, Int.toNat_natCast]
   rw [hm] at hc3 hm0 hm1
   replace hm := Lib.hid hm
   have hy1 : b1s < w.heap.size := qB hc1
   have hy2 : b2s < w.heap.size := qB hc2
   have hy3 : b3 < w.heap.size := qB hc3
   generalize s1.getD m 0 = xs at *
   generalize t1.getD m 0 = xt at *
   replace hs1 := Lib.hid hs1
   replace hs2 := Lib.hid hs2
   have ec0 := Xr.cell hc3
   have es0 := Xr.cell hc1
   have et0 := Xr.cell hc2
   clear hc1 hc2 hc3
   have z_va : w.heap.size < wr.heap.size := qB va0
   have z_q : w.heap.size + 1 < wr.heap.size := qB q0
   have z_ou : w.heap.size + 1 + 1 < wr.heap.size := qB ou0
   have z_ec : b3 < wr.heap.size := qB ec0
   have z_es : b1s < wr.heap.size := qB es0
   have z_et : b2s < wr.heap.size := qB et0
   have tl1 : (takL s1 (ord.take j)).length = j := by rw [takL_len, List.length_take]; omega
   have tl2 : (takL t1 (ord.take j)).length = j := by rw [takL_len, List.length_take]; omega
   replace tl1 := Lib.hid tl1
   replace tl2 := Lib.hid tl2
   go_wp2_with fail
   refine wp_region_tail (S := fun w' => w'.cell? ⟨w.heap.size, 1, none⟩ = some (.slice (some ⟨b1s, o1s, none⟩) s1.length cp1) ∧ w'.cell? ⟨w.heap.size + 1 + 1, 1, none⟩ = some (p1) ∧ w'.cell? ⟨b3, o3 + j, none⟩ = some (.int .i64 (m : Int)) ∧ w'.cell? ⟨b1s, o1s + m, none⟩ = some (.int .i64 xs)) (fun i => decide (13 ≤ i)) qKr ⟨va1, ou1, ec0, es0⟩ (fun hHeld => ?_)
   refine qTk (v := ?_) 0 rfl (.inl ⟨by rfl, ?_⟩) ?_
   rotate_left
   ·
    (intro w hSw; (try dsimp only at hSw); go_simp; try with_reducible rfl)
   try simp only [Act.put, qa, qb, qc, qD, qE, qF]
   refine qTk (v := ?_) 1 rfl (.inl ⟨by rfl, ?_⟩) ?_
   rotate_left
   ·
    (intro w hSw; (try dsimp only at hSw); go_simp; try with_reducible rfl)
   try simp only [Act.put, qa, qb, qc, qD, qE, qF]
   refine qTk (v := ?_) 2 rfl (.inl ⟨by rfl, ?_⟩) ?_
   rotate_left
   ·
    (intro w hSw; (try dsimp only at hSw); go_simp; try with_reducible rfl)
   try simp only [Act.put, qa, qb, qc, qD, qE, qF]
   refine qTk (v := ?_) 3 rfl (.inl ⟨by rfl, ?_⟩) ?_
   rotate_left
   ·
    (intro w hSw; (try dsimp only at hSw); go_simp; try with_reducible rfl)
   try simp only [Act.put, qa, qb, qc, qD, qE, qF]
   refine qTk (v := ?_) 4 rfl (.inl ⟨by rfl, ?_⟩) ?_
   rotate_left
   ·
    (intro w hSw; (try dsimp only at hSw); go_simp; try with_reducible rfl)
   try simp only [Act.put, qa, qb, qc, qD, qE, qF]
   refine qTk (v := ?_) 5 rfl (.inl ⟨by rfl, ?_⟩) ?_
   rotate_left
   ·
    (intro w hSw; (try dsimp only at hSw); go_simp; try with_reducible rfl)
   try simp only [Act.put, qa, qb, qc, qD, qE, qF]
   refine qTk (v := ?_) 6 rfl (.inl ⟨by rfl, ?_⟩) ?_
   rotate_left
   ·
    (intro w hSw; (try dsimp only at hSw); go_simp; try with_reducible rfl)
   try simp only [Act.put, qa, qb, qc, qD, qE, qF]
   refine qTk (v := ?_) 7 rfl (.inl ⟨by rfl, ?_⟩) ?_
   rotate_left
   ·
    (intro w hSw; (try dsimp only at hSw); go_simp; try with_reducible rfl)
   try simp only [Act.put, qa, qb, qc, qD, qE, qF]
   refine qTk (v := ?_) 8 rfl (.inl ⟨by rfl, ?_⟩) ?_
   rotate_left
   ·
    (intro w hSw; (try dsimp only at hSw); go_simp; try with_reducible rfl)
   try simp only [Act.put, qa, qb, qc, qD, qE, qF]
   refine qTk (v := ?_) 9 rfl (.inl ⟨by rfl, ?_⟩) ?_
   rotate_left
   ·
    (intro w hSw; (try dsimp only at hSw); go_simp; try with_reducible rfl)
   try simp only [Act.put, qa, qb, qc, qD, qE, qF]
   refine wpTail_one (i := 10) qKr rfl rfl (fun K hK => ?_)
   try simp only [Act.put, qa, qb, qc, qD, qE, qF]
   go_simp
   refine hK.out _ _ ⟨Ext.cell (w := wr) qXt va1, Ext.cell (w := wr) qXt ou1, Ext.cell (w := wr) qXt ec0, Ext.cell (w := wr) qXt es0⟩ (fun hHeld => ?_)
   clear hK K
   try simp only [Act.put, qa, qb, qc, qD, qE, qF]
   refine wpTail_one (i := 11) qKr rfl rfl (fun K hK => ?_)
   have Ew2 : Ext wr ((wr.drew).alloc (.cells #[.int .i64 (xs)] 3)) := qXt
   have Sw2 : Ints ((wr.drew).alloc (.cells #[.int .i64 (xs)] 3)) 0 (.slice (some ⟨wr.heap.size, 0, none⟩) 1 1) [xs] := by simpa using Ints.one wr.drew 0 (xs) (Nat.zero_le _)
   refine step_app rfl (.tmp 17) (.tmp 26) rfl rfl rfl (by exact T.o1.ext Ew2) (by exact Sw2) (by have := tl1.out; simp only [List.length_cons, List.length_nil]; omega) (by simp <;> omega) ?_
   intro vw2 w2 ho hgr hbl hvb
   obtain ⟨pa_w2, pn_w2, pc_w2, rfl⟩ := ho.any
   have Xw2 : Ext w w2 := Ext.below (Xr.trans Ew2) hbl (by omega)
   replace va0 := below_cell hbl (by omega) (Ew2.cell va0)
   replace va1 := below_cell hbl (by omega) (Ew2.cell va1)
   replace va2 := below_cell hbl (by omega) (Ew2.cell va2)
   replace q0 := below_cell hbl (by omega) (Ew2.cell q0)
   replace f_q0 := below_frz hbl (by omega) (Ew2.frz z_q f_q0)
   replace q1 := below_cell hbl (by omega) (Ew2.cell q1)
   replace f_q1 := below_frz hbl (by omega) (Ew2.frz z_q f_q1)
   replace q2 := below_cell hbl (by omega) (Ew2.cell q2)
   replace f_q2 := below_frz hbl (by omega) (Ew2.frz z_q f_q2)
   replace ou0 := below_cell hbl (by omega) (Ew2.cell ou0)
   replace f_ou0 := below_frz hbl (by omega) (Ew2.frz z_ou f_ou0)
   replace ou1 := below_cell hbl (by omega) (Ew2.cell ou1)
   replace f_ou1 := below_frz hbl (by omega) (Ew2.frz z_ou f_ou1)
   replace ou2 := below_cell hbl (by omega) (Ew2.cell ou2)
   replace f_ou2 := below_frz hbl (by omega) (Ew2.frz z_ou f_ou2)
   replace ec0 := below_cell hbl (by omega) (Ew2.cell ec0)
   replace es0 := below_cell hbl (by omega) (Ew2.cell es0)
   replace et0 := below_cell hbl (by omega) (Ew2.cell et0)
   have z_va : w.heap.size < w2.heap.size := qB va0
   have z_q : w.heap.size + 1 < w2.heap.size := qB q0
   have z_ou : w.heap.size + 1 + 1 < w2.heap.size := qB ou0
   have z_ec : b3 < w2.heap.size := qB ec0
   have z_es : b1s < w2.heap.size := qB es0
   have z_et : b2s < w2.heap.size := qB et0
   replace T := (T.ext Ew2).app1 ho hgr hvb
   have s_w2 : w.heap.size ≤ w2.heap.size := Xw2.size
   clear ho hgr hbl hvb Ew2 Sw2
   refine hK.out _ _ ⟨va1, ou1, ec0, es0⟩ (fun hHeld => ?_)
   clear hK K
   try simp only [Act.put, qa, qb, qc, qD, qE, qF]
   refine qTk (v := ?_) 12 rfl (.inl ⟨by rfl, ?_⟩) ?_
   rotate_left
   ·
    (intro w hSw; (try dsimp only at hSw); go_simp; try with_reducible rfl)
   try simp only [Act.put, qa, qb, qc, qD, qE, qF]
   refine wpTail_last (i := 13) qKr rfl rfl (fun K hK => ?_)
   try simp only [Act.put, qa, qb, qc, qD, qE, qF]
   go_simp
   refine hK.out _ _ ?_
   clear hK K
   try simp only [Act.put, qa, qb, qc, qD, qE, qF]
   refine wpTail_done qKr ?_ _
   clear hHeld
   generalize hW2 : (w2.setCell ⟨w.heap.size + 1 + 1, 1, none⟩ (.slice pa_w2 pn_w2 pc_w2)) = w3 at *
   have Kw3 : Chg (w.heap.size + 1 + 1) (w.heap.size + 1 + 1 + 1) w2 w3 := by subst hW2; exact qCh
   have Xw3 : Ext w w3 := by subst hW2; exact qXt
   replace va0 := Kw3.cell (by omega) va0
   replace va1 := Kw3.cell (by omega) va1
   replace va2 := Kw3.cell (by omega) va2
   replace q0 := Kw3.cell (by omega) q0
   replace f_q0 := Kw3.frzO (by omega) z_q f_q0
   replace q1 := Kw3.cell (by omega) q1
   replace f_q1 := Kw3.frzO (by omega) z_q f_q1
   replace q2 := Kw3.cell (by omega) q2
   replace f_q2 := Kw3.frzO (by omega) z_q f_q2
   replace ou0 : w3.cell? ⟨w.heap.size + 1 + 1, 0, none⟩ = some (.int .i64 b1) := by subst hW2; go_simp
   replace f_ou0 : w3.frozen? ⟨w.heap.size + 1 + 1, 0, none⟩ = false := by subst hW2; go_simp
   replace ou1 : w3.cell? ⟨w.heap.size + 1 + 1, 1, none⟩ = some (.slice pa_w2 pn_w2 pc_w2) := by subst hW2; go_simp
   replace f_ou1 : w3.frozen? ⟨w.heap.size + 1 + 1, 1, none⟩ = false := by subst hW2; go_simp
   replace ou2 : w3.cell? ⟨w.heap.size + 1 + 1, 2, none⟩ = some (p2) := by subst hW2; go_simp
   replace f_ou2 : w3.frozen? ⟨w.heap.size + 1 + 1, 2, none⟩ = false := by subst hW2; go_simp
   replace ec0 := Kw3.cell (by omega) ec0
   replace es0 := Kw3.cell (by omega) es0
   replace et0 := Kw3.cell (by omega) et0
   replace T := T.chg Kw3 (by omega)
   clear Kw3
   have z_va : w.heap.size < w3.heap.size := qB va0
   have z_q : w.heap.size + 1 < w3.heap.size := qB q0
   have z_ou : w.heap.size + 1 + 1 < w3.heap.size := qB ou0
   have z_ec : b3 < w3.heap.size := qB ec0
   have z_es : b1s < w3.heap.size := qB es0
   have z_et : b2s < w3.heap.size := qB et0
   have s_w3 : w.heap.size ≤ w3.heap.size := Xw3.size
   clear hW2
   go_wp2_with fail
   refine wp_region_tail (S := fun w' => w'.cell? ⟨w.heap.size, 2, none⟩ = some (.slice (some ⟨b2s, o2s, none⟩) t1.length cp2) ∧ w'.cell? ⟨w.heap.size + 1 + 1, 2, none⟩ = some (p2) ∧ w'.cell? ⟨b3, o3 + j, none⟩ = some (.int .i64 (m : Int)) ∧ w'.cell? ⟨b2s, o2s + m, none⟩ = some (.int .i64 xt)) (fun i => decide (13 ≤ i)) qKr ⟨va2, ou2, ec0, et0⟩ (fun hHeld => ?_)
   refine qTk (v := ?_) 0 rfl (.inl ⟨by rfl, ?_⟩) ?_
   rotate_left
   ·
    (intro w hSw; (try dsimp only at hSw); go_simp; try with_reducible rfl)
   try simp only [Act.put, qa, qb, qc, qD, qE, qF]
   refine qTk (v := ?_) 1 rfl (.inl ⟨by rfl, ?_⟩) ?_
   rotate_left
   ·
    (intro w hSw; (try dsimp only at hSw); go_simp; try with_reducible rfl)
   try simp only [Act.put, qa, qb, qc, qD, qE, qF]
   refine qTk (v := ?_) 2 rfl (.inl ⟨by rfl, ?_⟩) ?_
   rotate_left
   ·
    (intro w hSw; (try dsimp only at hSw); go_simp; try with_reducible rfl)
   try simp only [Act.put, qa, qb, qc, qD, qE, qF]
   refine qTk (v := ?_) 3 rfl (.inl ⟨by rfl, ?_⟩) ?_
   rotate_left
   ·
    (intro w hSw; (try dsimp only at hSw); go_simp; try with_reducible rfl)
   try simp only [Act.put, qa, qb, qc, qD, qE, qF]
   refine qTk (v := ?_) 4 rfl (.inl ⟨by rfl, ?_⟩) ?_
   rotate_left
   ·
    (intro w hSw; (try dsimp only at hSw); go_simp; try with_reducible rfl)
   try simp only [Act.put, qa, qb, qc, qD, qE, qF]
   refine qTk (v := ?_) 5 rfl (.inl ⟨by rfl, ?_⟩) ?_
   rotate_left
   ·
    (intro w hSw; (try dsimp only at hSw); go_simp; try with_reducible rfl)
   try simp only [Act.put, qa, qb, qc, qD, qE, qF]
   refine qTk (v := ?_) 6 rfl (.inl ⟨by rfl, ?_⟩) ?_
   rotate_left
   ·
    (intro w hSw; (try dsimp only at hSw); go_simp; try with_reducible rfl)
   try simp only [Act.put, qa, qb, qc, qD, qE, qF]
   refine qTk (v := ?_) 7 rfl (.inl ⟨by rfl, ?_⟩) ?_
   rotate_left
   ·
    (intro w hSw; (try dsimp only at hSw); go_simp; try with_reducible rfl)
   try simp only [Act.put, qa, qb, qc, qD, qE, qF]
   refine qTk (v := ?_) 8 rfl (.inl ⟨by rfl, ?_⟩) ?_
   rotate_left
   ·
    (intro w hSw; (try dsimp only at hSw); go_simp; try with_reducible rfl)
   try simp only [Act.put, qa, qb, qc, qD, qE, qF]
   refine qTk (v := ?_) 9 rfl (.inl ⟨by rfl, ?_⟩) ?_
   rotate_left
   ·
    (intro w hSw; (try dsimp only at hSw); go_simp; try with_reducible rfl)
   try simp only [Act.put, qa, qb, qc, qD, qE, qF]
   refine wpTail_one (i := 10) qKr rfl rfl (fun K hK => ?_)
   try simp only [Act.put, qa, qb, qc, qD, qE, qF]
   go_simp
   refine hK.out _ _ ⟨Ext.cell (w := w3) qXt va2, Ext.cell (w := w3) qXt ou2, Ext.cell (w := w3) qXt ec0, Ext.cell (w := w3) qXt et0⟩ (fun hHeld => ?_)
   clear hK K
   try simp only [Act.put, qa, qb, qc, qD, qE, qF]
   refine wpTail_one (i := 11) qKr rfl rfl (fun K hK => ?_)
   have Ew4 : Ext w3 ((w3.drew).alloc (.cells #[.int .i64 (xt)] 3)) := qXt
   have Sw4 : Ints ((w3.drew).alloc (.cells #[.int .i64 (xt)] 3)) 0 (.slice (some ⟨w3.heap.size, 0, none⟩) 1 1) [xt] := by simpa using Ints.one w3.drew 0 (xt) (Nat.zero_le _)
   refine step_app rfl (.tmp 30) (.tmp 39) rfl rfl rfl (by exact T.o2.ext Ew4) (by exact Sw4) (by have := tl2.out; simp only [List.length_cons, List.length_nil]; omega) (by simp <;> omega) ?_
   intro vw4 w4 ho hgr hbl hvb
   obtain ⟨pa_w4, pn_w4, pc_w4, rfl⟩ := ho.any
   have Xw4 : Ext w w4 := Ext.below (Xw3.trans Ew4) hbl (by omega)
   replace va0 := below_cell hbl (by omega) (Ew4.cell va0)
   replace va1 := below_cell hbl (by omega) (Ew4.cell va1)
   replace va2 := below_cell hbl (by omega) (Ew4.cell va2)
   replace q0 := below_cell hbl (by omega) (Ew4.cell q0)
   replace f_q0 := below_frz hbl (by omega) (Ew4.frz z_q f_q0)
   replace q1 := below_cell hbl (by omega) (Ew4.cell q1)
   replace f_q1 := below_frz hbl (by omega) (Ew4.frz z_q f_q1)
   replace q2 := below_cell hbl (by omega) (Ew4.cell q2)
   replace f_q2 := below_frz hbl (by omega) (Ew4.frz z_q f_q2)
   replace ou0 := below_cell hbl (by omega) (Ew4.cell ou0)
   replace f_ou0 := below_frz hbl (by omega) (Ew4.frz z_ou f_ou0)
   replace ou1 := below_cell hbl (by omega) (Ew4.cell ou1)
   replace f_ou1 := below_frz hbl (by omega) (Ew4.frz z_ou f_ou1)
   replace ou2 := below_cell hbl (by omega) (Ew4.cell ou2)
   replace f_ou2 := below_frz hbl (by omega) (Ew4.frz z_ou f_ou2)
   replace ec0 := below_cell hbl (by omega) (Ew4.cell ec0)
   replace es0 := below_cell hbl (by omega) (Ew4.cell es0)
   replace et0 := below_cell hbl (by omega) (Ew4.cell et0)
   have z_va : w.heap.size < w4.heap.size := qB va0
   have z_q : w.heap.size + 1 < w4.heap.size := qB q0
   have z_ou : w.heap.size + 1 + 1 < w4.heap.size := qB ou0
   have z_ec : b3 < w4.heap.size := qB ec0
   have z_es : b1s < w4.heap.size := qB es0
   have z_et : b2s < w4.heap.size := qB et0
   replace T := (T.ext Ew4).app2 ho hgr hvb
   have s_w4 : w.heap.size ≤ w4.heap.size := Xw4.size
   clear ho hgr hbl hvb Ew4 Sw4
   refine hK.out _ _ ⟨va2, ou2, ec0, et0⟩ (fun hHeld => ?_)
   clear hK K
   try simp only [Act.put, qa, qb, qc, qD, qE, qF]
   refine qTk (v := ?_) 12 rfl (.inl ⟨by rfl, ?_⟩) ?_
   rotate_left
   ·
    (intro w hSw; (try dsimp only at hSw); go_simp; try with_reducible rfl)
   try simp only [Act.put, qa, qb, qc, qD, qE, qF]
   refine wpTail_last (i := 13) qKr rfl rfl (fun K hK => ?_)
   try simp only [Act.put, qa, qb, qc, qD, qE, qF]
   go_simp
   refine hK.out _ _ ?_
   clear hK K
   try simp only [Act.put, qa, qb, qc, qD, qE, qF]
   refine wpTail_done qKr ?_ _
   clear hHeld
   generalize hW3 : (w4.setCell ⟨w.heap.size + 1 + 1, 2, none⟩ (.slice pa_w4 pn_w4 pc_w4)) = w5 at *
   have Kw5 : Chg (w.heap.size + 1 + 1) (w.heap.size + 1 + 1 + 1) w4 w5 := by subst hW3; exact qCh
   have Xw5 : Ext w w5 := by subst hW3; exact qXt
   replace va0 := Kw5.cell (by omega) va0
   replace va1 := Kw5.cell (by omega) va1
   replace va2 := Kw5.cell (by omega) va2
   replace q0 := Kw5.cell (by omega) q0
   replace f_q0 := Kw5.frzO (by omega) z_q f_q0
   replace q1 := Kw5.cell (by omega) q1
   replace f_q1 := Kw5.frzO (by omega) z_q f_q1
   replace q2 := Kw5.cell (by omega) q2
   replace f_q2 := Kw5.frzO (by omega) z_q f_q2
   replace ou0 : w5.cell? ⟨w.heap.size + 1 + 1, 0, none⟩ = some (.int .i64 b1) := by subst hW3; go_simp
   replace f_ou0 : w5.frozen? ⟨w.heap.size + 1 + 1, 0, none⟩ = false := by subst hW3; go_simp
   replace ou1 : w5.cell? ⟨w.heap.size + 1 + 1, 1, none⟩ = some (.slice pa_w2 pn_w2 pc_w2) := by subst hW3; go_simp
   replace f_ou1 : w5.frozen? ⟨w.heap.size + 1 + 1, 1, none⟩ = false := by subst hW3; go_simp
   replace ou2 : w5.cell? ⟨w.heap.size + 1 + 1, 2, none⟩ = some (.slice pa_w4 pn_w4 pc_w4) := by subst hW3; go_simp
   replace f_ou2 : w5.frozen? ⟨w.heap.size + 1 + 1, 2, none⟩ = false := by subst hW3; go_simp
   replace ec0 := Kw5.cell (by omega) ec0
   replace es0 := Kw5.cell (by omega) es0
   replace et0 := Kw5.cell (by omega) et0
   replace T := T.chg Kw5 (by omega)
   clear Kw5
   have z_va : w.heap.size < w5.heap.size := qB va0
   have z_q : w.heap.size + 1 < w5.heap.size := qB q0
   have z_ou : w.heap.size + 1 + 1 < w5.heap.size := qB ou0
   have z_ec : b3 < w5.heap.size := qB ec0
   have z_es : b1s < w5.heap.size := qB es0
   have z_et : b2s < w5.heap.size := qB et0
   have s_w5 : w.heap.size ≤ w5.heap.size := Xw5.size
   clear hW3
   go_wp2_with fail
   go_roundw
   case rel => exact ⟨j + 1, _, _, by omega, by go_num, by rw [hs1.out, hs2.out]; exact T, Xw5, va0, va1, va2, q0, q1, q2, f_q0, f_q1, f_q2, ou0, ou1, ou2, f_ou0, f_ou1, f_ou2⟩
   case measure => simp [intOf]; omega
  ·
   obtain rfl : j = ord.length := by omega
   have hI : ¬ ((ord.length : Int) < ord.length) := by omega
   rw [List.take_length] at T
   obtain ⟨a5, c5, rfl⟩ := (T.o1.ints (by rw [takL_len]; omega)).form
   obtain ⟨a6, c6, rfl⟩ := (T.o2.ints (by rw [takL_len]; omega)).form
   have z_va : w.heap.size < wr.heap.size := qB va0
   have z_q : w.heap.size + 1 < wr.heap.size := qB q0
   have z_ou : w.heap.size + 1 + 1 < wr.heap.size := qB ou0
   simp only [takL_len] at ou1 ou2 T
   go_wp2_with fail
   generalize hW4 : (((wr.setCell ⟨w.heap.size + 1, 0, none⟩ (.int .i64 b1)).setCell ⟨w.heap.size + 1, 1, none⟩ (.slice a5 ord.length c5)).setCell ⟨w.heap.size + 1, 2, none⟩ (.slice a6 ord.length c6)) = w2 at *
   have Kw2 : Chg (w.heap.size + 1) (w.heap.size + 1 + 1) wr w2 := by subst hW4; exact qCh
   have Xw2 : Ext w w2 := by subst hW4; exact qXt
   replace va0 := Kw2.cell (by omega) va0
   replace va1 := Kw2.cell (by omega) va1
   replace va2 := Kw2.cell (by omega) va2
   replace q0 : w2.cell? ⟨w.heap.size + 1, 0, none⟩ = some (.int .i64 b1) := by subst hW4; go_simp
   replace f_q0 : w2.frozen? ⟨w.heap.size + 1, 0, none⟩ = false := by subst hW4; go_simp
   replace q1 : w2.cell? ⟨w.heap.size + 1, 1, none⟩ = some (.slice a5 ord.length c5) := by subst hW4; go_simp
   replace f_q1 : w2.frozen? ⟨w.heap.size + 1, 1, none⟩ = false := by subst hW4; go_simp
   replace q2 : w2.cell? ⟨w.heap.size + 1, 2, none⟩ = some (.slice a6 ord.length c6) := by subst hW4; go_simp
   replace f_q2 : w2.frozen? ⟨w.heap.size + 1, 2, none⟩ = false := by subst hW4; go_simp
   replace ou0 := Kw2.cell (by omega) ou0
   replace f_ou0 := Kw2.frzO (by omega) z_ou f_ou0
   replace ou1 := Kw2.cell (by omega) ou1
   replace f_ou1 := Kw2.frzO (by omega) z_ou f_ou1
   replace ou2 := Kw2.cell (by omega) ou2
   replace f_ou2 := Kw2.frzO (by omega) z_ou f_ou2
   replace T := T.chg Kw2 (by omega)
   clear Kw2
   have z_va : w.heap.size < w2.heap.size := qB va0
   have z_q : w.heap.size + 1 < w2.heap.size := qB q0
   have z_ou : w.heap.size + 1 + 1 < w2.heap.size := qB ou0
   have s_w2 : w.heap.size ≤ w2.heap.size := Xw2.size
   clear hW4
   refine bodyPost_ret (v := .agg #[.int .i64 b1, .slice a5 ord.length c5, .slice a6 ord.length c6]) (by simp only [results, Try.results148]; go_simp) rfl ?_
   exact PView.own (T.o1.lower (by omega)).z (T.o2.lower (by omega)).z (fun n1 n2 h => by obtain ⟨g, _, h1, _⟩ := (T.o1).row n1; rw [h1] at h; exact T.sep g (by rw [h1]; rfl) (h ▸ rfl)) (by rw [takL_len]; omega) (by rw [takL_len]; omega) Xw2

end Go.Proofs.Ytpgkhjmboiepcaa

/- Walks: insert of the reference. -/
namespace Go.Proofs.Ytpgkhjmboiepcaa
open Go.RowKit
set_option linter.unusedVariables false
set_option maxRecDepth 100000

set_option maxHeartbeats 3200000 in
theorem insert_c (xs : List Int) (v : Value) (i : Nat) (x : Int) (w : World) (lo : Nat) (hv : Ints w lo v xs) (hi : i ≤ xs.length) (hl : xs.length ≤ 100000) :
  Calls Try.prog 117 #[v, .int .i64 (i : Int), .int .i64 x] w (PInts w (xs.take i ++ [x] ++ xs.drop i)) := by
 have hlen := ints_len hv
 have hv0 := hv
 obtain ⟨a, c, rfl, hc, hcm, hb2, hat⟩ := hv
 have ht := hv0.take i (by omega)
 by_cases hne : xs = []
 rotate_left
 obtain ⟨b, off, rfl⟩ : ∃ b off, a = some ⟨b, off, none⟩ := by
  obtain ⟨b, off, h, _⟩ := hat 0 (by cases xs <;> simp_all)
  exact ⟨b, off, h⟩
 by_cases hci : ¬ c = i
 ·
  have hd := hv0.drop1 i (by omega) hci
  have g1 : (i : Int) ≤ c := by omega
  have g2 : (i : Int) ≤ xs.length := by omega
  have g3 : (0 : Int) ≤ i := by omega
  go_enter Try.func117, Try.ntmps117
  go_wp2_with fail
  refine wp_region_held_drew (S := fun _ => True) qKr trivial (fun hHeld => ?_)
  refine qHk (v := ?_) 1 rfl (.inl ⟨by rfl, ?_⟩) ?_
  rotate_left
  ·
   (intro w hSw; (try dsimp only at hSw); go_simp; try with_reducible rfl)
  try simp only [Act.put, qa, qb, qc, qD, qE, qF]
  refine qHk (v := ?_) 2 rfl (.inl ⟨by rfl, ?_⟩) ?_
  rotate_left
  ·
   (intro w hSw; (try dsimp only at hSw); go_simp; try with_reducible rfl)
  try simp only [Act.put, qa, qb, qc, qD, qE, qF]
  refine qHk (v := ?_) 3 rfl (.inl ⟨by rfl, ?_⟩) ?_
  rotate_left
  ·
   (intro w hSw; (try dsimp only at hSw); go_simp; try with_reducible rfl)
  try simp only [Act.put, qa, qb, qc, qD, qE, qF]
  refine qHk (v := ?_) 5 rfl (.inl ⟨by rfl, ?_⟩) ?_
  rotate_left
  ·
   (intro w hSw; (try dsimp only at hSw); go_simp; try with_reducible rfl)
  try simp only [Act.put, qa, qb, qc, qD, qE, qF]
  refine qHk (v := ?_) 8 rfl (.inl ⟨by rfl, ?_⟩) ?_
  rotate_left
  ·
   (intro w hSw; (try dsimp only at hSw); go_simp; try with_reducible rfl)
  try simp only [Act.put, qa, qb, qc, qD, qE, qF]
  refine qHk (v := ?_) 9 rfl (.inl ⟨by rfl, ?_⟩) ?_
  rotate_left
  ·
   (intro w hSw; (try dsimp only at hSw); go_simp; try with_reducible rfl)
  try simp only [Act.put, qa, qb, qc, qD, qE, qF]
  refine qHk (v := ?_) 10 rfl (.inl ⟨by rfl, ?_⟩) ?_
  rotate_left
  ·
   (intro w hSw; (try dsimp only at hSw); go_simp; try with_reducible rfl)
  try simp only [Act.put, qa, qb, qc, qD, qE, qF]
  refine wpAnyH_ready (rs := [0, 6]) qKr (by simp) ?_
  refine AllReadyH.cons rfl (fun K hK => ?_) (AllReadyH.cons rfl (fun K hK => ?_) AllReadyH.nil)
  ·
   skip
   try simp only [Act.put, qa, qb, qc, qD, qE, qF]
   go_simp
   refine hK.out _ _ trivial (fun hHeld => ?_)
   clear hK K
   try simp only [Act.put, qa, qb, qc, qD, qE, qF]
   refine wpAnyH_ready (rs := [4, 6]) qKr (by simp) ?_
   refine AllReadyH.cons rfl (fun K hK => ?_) (AllReadyH.cons rfl (fun K hK => ?_) AllReadyH.nil)
   ·
    skip
    refine step_app rfl (.tmp 7) (.tmp 10) rfl rfl rfl (OwnI.lit0 _ w.heap.size (by simp)) (by first | exact ht.ext qXo | exact Ints.nil _ w.heap.size _ _ (by omega) (by simp)) (by simp <;> omega) (by first | assumption | (simp; done) | (simp; omega) | omega) ?_
    intro v4 w4 o4 gr4 bl4 eq4
    refine hK.out _ _ trivial (fun hHeld => ?_)
    clear hK K
    try simp only [Act.put, qa, qb, qc, qD, qE, qF]
    have X4 : Ext w w4 := Ext.below (show Ext w _ from qXo) bl4 (by simp)
    have z4 : w.heap.size ≤ w4.heap.size := X4.size
    refine qHr 6 rfl (fun K hK => ?_)
    try simp only [Act.put, qa, qb, qc, qD, qE, qF]
    go_simp
    refine hK.out _ _ trivial (fun hHeld => ?_)
    clear hK K
    try simp only [Act.put, qa, qb, qc, qD, qE, qF]
    replace o4 := o4.ext (show Ext w4 (w4.alloc (.cells #[.int .i64 x] 3)) from qXo)
    refine qHr 7 rfl (fun K hK => ?_)
    refine step_app rfl (.tmp 11) (.tmp 13) rfl rfl rfl (o4) (Ints.one w4 w.heap.size x z4) (by simp <;> omega) (by first | assumption | (simp; done) | (simp; omega) | omega) ?_
    intro v7 w7 o7 gr7 bl7 eq7
    refine hK.out _ _ trivial (fun hHeld => ?_)
    clear hK K
    try simp only [Act.put, qa, qb, qc, qD, qE, qF]
    have X7 : Ext w w7 := Ext.below (X4.trans qXo) bl7 (Nat.le_refl _)
    have z7 : w.heap.size ≤ w7.heap.size := X7.size
    refine qHr 11 rfl (fun K hK => ?_)
    refine step_app rfl (.tmp 14) (.tmp 17) rfl rfl rfl (o7) (by first | exact hd.ext X7 | exact Ints.nil _ w.heap.size _ _ (by omega) (by simp)) (by simp <;> omega) (by first | assumption | (simp; done) | (simp; omega) | omega) ?_
    intro v11 w11 o11 gr11 bl11 eq11
    refine hK.out _ _ trivial (fun hHeld => ?_)
    clear hK K
    try simp only [Act.put, qa, qb, qc, qD, qE, qF]
    have X11 : Ext w w11 := Ext.below X7 bl11 (Nat.le_refl _)
    refine qHr 12 rfl (fun K hK => ?_)
    try simp only [Act.put, qa, qb, qc, qD, qE, qF]
    go_simp
    refine hK.out _ _ trivial (fun hHeld => ?_)
    clear hK K
    try simp only [Act.put, qa, qb, qc, qD, qE, qF]
    refine wpAnyH_done qKr ?_ _
    clear hHeld
    go_wp2_with fail
    refine bodyPost_ret (v := v11) (by simp only [results, Try.results117]; go_simp) rfl ?_
    exact PInts.mkz (by first | exact o11.z | (rw [List.drop_eq_nil_of_le hc]; exact o11.z)) (Nat.le_refl _) (by simp <;> omega) X11
   ·
    skip
    try simp only [Act.put, qa, qb, qc, qD, qE, qF]
    go_simp
    refine hK.out _ _ trivial (fun hHeld => ?_)
    clear hK K
    try simp only [Act.put, qa, qb, qc, qD, qE, qF]
    refine qHr 4 rfl (fun K hK => ?_)
    have l0 : OwnI ((w.drew.alloc (.cells #[] 3)).alloc (.cells #[.int .i64 x] 3)) w.heap.size (.slice (some ⟨w.heap.size, 0, none⟩) 0 0) [] := (OwnI.lit0 w.drew w.heap.size (by simp)).ext ((Ext.refl _).alloc _)
    have l1 : Ints ((w.drew.alloc (.cells #[] 3)).alloc (.cells #[.int .i64 x] 3)) w.heap.size (.slice (some ⟨w.heap.size + 1, 0, none⟩) 1 1) [x] := by simpa using Ints.one (w.drew.alloc (.cells #[] 3)) w.heap.size x (by simp)
    refine step_app rfl (.tmp 7) (.tmp 10) rfl rfl rfl (l0) (by first | exact ht.ext qXo | exact Ints.nil _ w.heap.size _ _ (by omega) (by simp)) (by simp <;> omega) (by first | assumption | (simp; done) | (simp; omega) | omega) ?_
    intro v4 w4 o4 gr4 bl4 eq4
    refine hK.out _ _ trivial (fun hHeld => ?_)
    clear hK K
    try simp only [Act.put, qa, qb, qc, qD, qE, qF]
    have X4 : Ext w w4 := Ext.below (show Ext w _ from qXo) bl4 (by simp)
    have z4 : w.heap.size ≤ w4.heap.size := X4.size
    replace l1 := l1.keepG gr4 (fun b off h _ => by cases h; show (some w.heap.size : Option Nat) ≠ some (w.heap.size + 1); simp)
    refine qHr 7 rfl (fun K hK => ?_)
    refine step_app rfl (.tmp 11) (.tmp 13) rfl rfl rfl (o4) (l1) (by simp <;> omega) (by first | assumption | (simp; done) | (simp; omega) | omega) ?_
    intro v7 w7 o7 gr7 bl7 eq7
    refine hK.out _ _ trivial (fun hHeld => ?_)
    clear hK K
    try simp only [Act.put, qa, qb, qc, qD, qE, qF]
    have X7 : Ext w w7 := Ext.below (X4) bl7 (Nat.le_refl _)
    have z7 : w.heap.size ≤ w7.heap.size := X7.size
    refine qHr 11 rfl (fun K hK => ?_)
    refine step_app rfl (.tmp 14) (.tmp 17) rfl rfl rfl (o7) (by first | exact hd.ext X7 | exact Ints.nil _ w.heap.size _ _ (by omega) (by simp)) (by simp <;> omega) (by first | assumption | (simp; done) | (simp; omega) | omega) ?_
    intro v11 w11 o11 gr11 bl11 eq11
    refine hK.out _ _ trivial (fun hHeld => ?_)
    clear hK K
    try simp only [Act.put, qa, qb, qc, qD, qE, qF]
    have X11 : Ext w w11 := Ext.below X7 bl11 (Nat.le_refl _)
    refine qHr 12 rfl (fun K hK => ?_)
    try simp only [Act.put, qa, qb, qc, qD, qE, qF]
    go_simp
    refine hK.out _ _ trivial (fun hHeld => ?_)
    clear hK K
    try simp only [Act.put, qa, qb, qc, qD, qE, qF]
    refine wpAnyH_done qKr ?_ _
    clear hHeld
    go_wp2_with fail
    refine bodyPost_ret (v := v11) (by simp only [results, Try.results117]; go_simp) rfl ?_
    exact PInts.mkz (by first | exact o11.z | (rw [List.drop_eq_nil_of_le hc]; exact o11.z)) (Nat.le_refl _) (by simp <;> omega) X11
  ·
   skip
   try simp only [Act.put, qa, qb, qc, qD, qE, qF]
   go_simp
   refine hK.out _ _ trivial (fun hHeld => ?_)
   clear hK K
   try simp only [Act.put, qa, qb, qc, qD, qE, qF]
   refine qHr 0 rfl (fun K hK => ?_)
   try simp only [Act.put, qa, qb, qc, qD, qE, qF]
   go_simp
   refine hK.out _ _ trivial (fun hHeld => ?_)
   clear hK K
   try simp only [Act.put, qa, qb, qc, qD, qE, qF]
   refine qHr 4 rfl (fun K hK => ?_)
   have l0 : OwnI ((w.drew.alloc (.cells #[.int .i64 x] 3)).alloc (.cells #[] 3)) w.heap.size (.slice (some ⟨w.heap.size + 1, 0, none⟩) 0 0) [] := by simpa using (OwnI.lit0 (w.drew.alloc (.cells #[.int .i64 x] 3)) w.heap.size (by simp))
   have l1 : Ints ((w.drew.alloc (.cells #[.int .i64 x] 3)).alloc (.cells #[] 3)) w.heap.size (.slice (some ⟨w.heap.size, 0, none⟩) 1 1) [x] := (Ints.one w.drew w.heap.size x (by simp)).ext ((Ext.refl _).alloc _)
   refine step_app rfl (.tmp 7) (.tmp 10) rfl rfl rfl (l0) (by first | exact ht.ext qXo | exact Ints.nil _ w.heap.size _ _ (by omega) (by simp)) (by simp <;> omega) (by first | assumption | (simp; done) | (simp; omega) | omega) ?_
   intro v4 w4 o4 gr4 bl4 eq4
   refine hK.out _ _ trivial (fun hHeld => ?_)
   clear hK K
   try simp only [Act.put, qa, qb, qc, qD, qE, qF]
   have X4 : Ext w w4 := Ext.below (show Ext w _ from qXo) bl4 (by simp)
   have z4 : w.heap.size ≤ w4.heap.size := X4.size
   replace l1 := l1.keepG gr4 (fun b off h _ => by cases h; show (some (w.heap.size + 1) : Option Nat) ≠ some w.heap.size; simp)
   refine qHr 7 rfl (fun K hK => ?_)
   refine step_app rfl (.tmp 11) (.tmp 13) rfl rfl rfl (o4) (l1) (by simp <;> omega) (by first | assumption | (simp; done) | (simp; omega) | omega) ?_
   intro v7 w7 o7 gr7 bl7 eq7
   refine hK.out _ _ trivial (fun hHeld => ?_)
   clear hK K
   try simp only [Act.put, qa, qb, qc, qD, qE, qF]
   have X7 : Ext w w7 := Ext.below (X4) bl7 (Nat.le_refl _)
   have z7 : w.heap.size ≤ w7.heap.size := X7.size
   refine qHr 11 rfl (fun K hK => ?_)
   refine step_app rfl (.tmp 14) (.tmp 17) rfl rfl rfl (o7) (by first | exact hd.ext X7 | exact Ints.nil _ w.heap.size _ _ (by omega) (by simp)) (by simp <;> omega) (by first | assumption | (simp; done) | (simp; omega) | omega) ?_
   intro v11 w11 o11 gr11 bl11 eq11
   refine hK.out _ _ trivial (fun hHeld => ?_)
   clear hK K
   try simp only [Act.put, qa, qb, qc, qD, qE, qF]
   have X11 : Ext w w11 := Ext.below X7 bl11 (Nat.le_refl _)
   refine qHr 12 rfl (fun K hK => ?_)
   try simp only [Act.put, qa, qb, qc, qD, qE, qF]
   go_simp
   refine hK.out _ _ trivial (fun hHeld => ?_)
   clear hK K
   try simp only [Act.put, qa, qb, qc, qD, qE, qF]
   refine wpAnyH_done qKr ?_ _
   clear hHeld
   go_wp2_with fail
   refine bodyPost_ret (v := v11) (by simp only [results, Try.results117]; go_simp) rfl ?_
   exact PInts.mkz (by first | exact o11.z | (rw [List.drop_eq_nil_of_le hc]; exact o11.z)) (Nat.le_refl _) (by simp <;> omega) X11
 ·
  have hci : c = i := by omega
  have hd := hv0.drop0 i (by omega) hci
  subst hci
  have g2 : (c : Int) ≤ xs.length := by omega
  have g3 : (0 : Int) ≤ c := by omega
  go_enter Try.func117, Try.ntmps117
  go_wp2_with fail
  refine wp_region_held_drew (S := fun _ => True) qKr trivial (fun hHeld => ?_)
  refine qHk (v := ?_) 1 rfl (.inl ⟨by rfl, ?_⟩) ?_
  rotate_left
  ·
   (intro w hSw; (try dsimp only at hSw); go_simp; try with_reducible rfl)
  try simp only [Act.put, qa, qb, qc, qD, qE, qF]
  refine qHk (v := ?_) 2 rfl (.inl ⟨by rfl, ?_⟩) ?_
  rotate_left
  ·
   (intro w hSw; (try dsimp only at hSw); go_simp; try with_reducible rfl)
  try simp only [Act.put, qa, qb, qc, qD, qE, qF]
  refine qHk (v := ?_) 3 rfl (.inl ⟨by rfl, ?_⟩) ?_
  rotate_left
  ·
   (intro w hSw; (try dsimp only at hSw); go_simp; try with_reducible rfl)
  try simp only [Act.put, qa, qb, qc, qD, qE, qF]
  refine qHk (v := ?_) 5 rfl (.inl ⟨by rfl, ?_⟩) ?_
  rotate_left
  ·
   (intro w hSw; (try dsimp only at hSw); go_simp; try with_reducible rfl)
  try simp only [Act.put, qa, qb, qc, qD, qE, qF]
  refine qHk (v := ?_) 8 rfl (.inl ⟨by rfl, ?_⟩) ?_
  rotate_left
  ·
   (intro w hSw; (try dsimp only at hSw); go_simp; try with_reducible rfl)
  try simp only [Act.put, qa, qb, qc, qD, qE, qF]
  refine qHk (v := ?_) 9 rfl (.inl ⟨by rfl, ?_⟩) ?_
  rotate_left
  ·
   (intro w hSw; (try dsimp only at hSw); go_simp; try with_reducible rfl)
  try simp only [Act.put, qa, qb, qc, qD, qE, qF]
  refine qHk (v := ?_) 10 rfl (.inl ⟨by rfl, ?_⟩) ?_
  rotate_left
  ·
   (intro w hSw; (try dsimp only at hSw); go_simp; try with_reducible rfl)
  try simp only [Act.put, qa, qb, qc, qD, qE, qF]
  refine wpAnyH_ready (rs := [0, 6]) qKr (by simp) ?_
  refine AllReadyH.cons rfl (fun K hK => ?_) (AllReadyH.cons rfl (fun K hK => ?_) AllReadyH.nil)
  ·
   skip
   try simp only [Act.put, qa, qb, qc, qD, qE, qF]
   go_simp
   refine hK.out _ _ trivial (fun hHeld => ?_)
   clear hK K
   try simp only [Act.put, qa, qb, qc, qD, qE, qF]
   refine wpAnyH_ready (rs := [4, 6]) qKr (by simp) ?_
   refine AllReadyH.cons rfl (fun K hK => ?_) (AllReadyH.cons rfl (fun K hK => ?_) AllReadyH.nil)
   ·
    skip
    refine step_app rfl (.tmp 7) (.tmp 10) rfl rfl rfl (OwnI.lit0 _ w.heap.size (by simp)) (by first | exact ht.ext qXo | exact Ints.nil _ w.heap.size _ _ (by omega) (by simp)) (by simp <;> omega) (by first | assumption | (simp; done) | (simp; omega) | omega) ?_
    intro v4 w4 o4 gr4 bl4 eq4
    refine hK.out _ _ trivial (fun hHeld => ?_)
    clear hK K
    try simp only [Act.put, qa, qb, qc, qD, qE, qF]
    have X4 : Ext w w4 := Ext.below (show Ext w _ from qXo) bl4 (by simp)
    have z4 : w.heap.size ≤ w4.heap.size := X4.size
    refine qHr 6 rfl (fun K hK => ?_)
    try simp only [Act.put, qa, qb, qc, qD, qE, qF]
    go_simp
    refine hK.out _ _ trivial (fun hHeld => ?_)
    clear hK K
    try simp only [Act.put, qa, qb, qc, qD, qE, qF]
    replace o4 := o4.ext (show Ext w4 (w4.alloc (.cells #[.int .i64 x] 3)) from qXo)
    refine qHr 7 rfl (fun K hK => ?_)
    refine step_app rfl (.tmp 11) (.tmp 13) rfl rfl rfl (o4) (Ints.one w4 w.heap.size x z4) (by simp <;> omega) (by first | assumption | (simp; done) | (simp; omega) | omega) ?_
    intro v7 w7 o7 gr7 bl7 eq7
    refine hK.out _ _ trivial (fun hHeld => ?_)
    clear hK K
    try simp only [Act.put, qa, qb, qc, qD, qE, qF]
    have X7 : Ext w w7 := Ext.below (X4.trans qXo) bl7 (Nat.le_refl _)
    have z7 : w.heap.size ≤ w7.heap.size := X7.size
    refine qHr 11 rfl (fun K hK => ?_)
    refine step_app rfl (.tmp 14) (.tmp 17) rfl rfl rfl (o7) (by first | exact hd.ext X7 | exact Ints.nil _ w.heap.size _ _ (by omega) (by simp)) (by simp <;> omega) (by first | assumption | (simp; done) | (simp; omega) | omega) ?_
    intro v11 w11 o11 gr11 bl11 eq11
    refine hK.out _ _ trivial (fun hHeld => ?_)
    clear hK K
    try simp only [Act.put, qa, qb, qc, qD, qE, qF]
    have X11 : Ext w w11 := Ext.below X7 bl11 (Nat.le_refl _)
    refine qHr 12 rfl (fun K hK => ?_)
    try simp only [Act.put, qa, qb, qc, qD, qE, qF]
    go_simp
    refine hK.out _ _ trivial (fun hHeld => ?_)
    clear hK K
    try simp only [Act.put, qa, qb, qc, qD, qE, qF]
    refine wpAnyH_done qKr ?_ _
    clear hHeld
    go_wp2_with fail
    refine bodyPost_ret (v := v11) (by simp only [results, Try.results117]; go_simp) rfl ?_
    exact PInts.mkz (by first | exact o11.z | (rw [List.drop_eq_nil_of_le hc]; exact o11.z)) (Nat.le_refl _) (by simp <;> omega) X11
   ·
    skip
    try simp only [Act.put, qa, qb, qc, qD, qE, qF]
    go_simp
    refine hK.out _ _ trivial (fun hHeld => ?_)
    clear hK K
    try simp only [Act.put, qa, qb, qc, qD, qE, qF]
    refine qHr 4 rfl (fun K hK => ?_)
    have l0 : OwnI ((w.drew.alloc (.cells #[] 3)).alloc (.cells #[.int .i64 x] 3)) w.heap.size (.slice (some ⟨w.heap.size, 0, none⟩) 0 0) [] := (OwnI.lit0 w.drew w.heap.size (by simp)).ext ((Ext.refl _).alloc _)
    have l1 : Ints ((w.drew.alloc (.cells #[] 3)).alloc (.cells #[.int .i64 x] 3)) w.heap.size (.slice (some ⟨w.heap.size + 1, 0, none⟩) 1 1) [x] := by simpa using Ints.one (w.drew.alloc (.cells #[] 3)) w.heap.size x (by simp)
    refine step_app rfl (.tmp 7) (.tmp 10) rfl rfl rfl (l0) (by first | exact ht.ext qXo | exact Ints.nil _ w.heap.size _ _ (by omega) (by simp)) (by simp <;> omega) (by first | assumption | (simp; done) | (simp; omega) | omega) ?_
    intro v4 w4 o4 gr4 bl4 eq4
    refine hK.out _ _ trivial (fun hHeld => ?_)
    clear hK K
    try simp only [Act.put, qa, qb, qc, qD, qE, qF]
    have X4 : Ext w w4 := Ext.below (show Ext w _ from qXo) bl4 (by simp)
    have z4 : w.heap.size ≤ w4.heap.size := X4.size
    replace l1 := l1.keepG gr4 (fun b off h _ => by cases h; show (some w.heap.size : Option Nat) ≠ some (w.heap.size + 1); simp)
    refine qHr 7 rfl (fun K hK => ?_)
    refine step_app rfl (.tmp 11) (.tmp 13) rfl rfl rfl (o4) (l1) (by simp <;> omega) (by first | assumption | (simp; done) | (simp; omega) | omega) ?_
    intro v7 w7 o7 gr7 bl7 eq7
    refine hK.out _ _ trivial (fun hHeld => ?_)
    clear hK K
    try simp only [Act.put, qa, qb, qc, qD, qE, qF]
    have X7 : Ext w w7 := Ext.below (X4) bl7 (Nat.le_refl _)
    have z7 : w.heap.size ≤ w7.heap.size := X7.size
    refine qHr 11 rfl (fun K hK => ?_)
    refine step_app rfl (.tmp 14) (.tmp 17) rfl rfl rfl (o7) (by first | exact hd.ext X7 | exact Ints.nil _ w.heap.size _ _ (by omega) (by simp)) (by simp <;> omega) (by first | assumption | (simp; done) | (simp; omega) | omega) ?_
    intro v11 w11 o11 gr11 bl11 eq11
    refine hK.out _ _ trivial (fun hHeld => ?_)
    clear hK K
    try simp only [Act.put, qa, qb, qc, qD, qE, qF]
    have X11 : Ext w w11 := Ext.below X7 bl11 (Nat.le_refl _)
    refine qHr 12 rfl (fun K hK => ?_)
    try simp only [Act.put, qa, qb, qc, qD, qE, qF]
    go_simp
    refine hK.out _ _ trivial (fun hHeld => ?_)
    clear hK K
    try simp only [Act.put, qa, qb, qc, qD, qE, qF]
    refine wpAnyH_done qKr ?_ _
    clear hHeld
    go_wp2_with fail
    refine bodyPost_ret (v := v11) (by simp only [results, Try.results117]; go_simp) rfl ?_
    exact PInts.mkz (by first | exact o11.z | (rw [List.drop_eq_nil_of_le hc]; exact o11.z)) (Nat.le_refl _) (by simp <;> omega) X11
  ·
   skip
   try simp only [Act.put, qa, qb, qc, qD, qE, qF]
   go_simp
   refine hK.out _ _ trivial (fun hHeld => ?_)
   clear hK K
   try simp only [Act.put, qa, qb, qc, qD, qE, qF]
   refine qHr 0 rfl (fun K hK => ?_)
   try simp only [Act.put, qa, qb, qc, qD, qE, qF]
   go_simp
   refine hK.out _ _ trivial (fun hHeld => ?_)
   clear hK K
   try simp only [Act.put, qa, qb, qc, qD, qE, qF]
   refine qHr 4 rfl (fun K hK => ?_)
   have l0 : OwnI ((w.drew.alloc (.cells #[.int .i64 x] 3)).alloc (.cells #[] 3)) w.heap.size (.slice (some ⟨w.heap.size + 1, 0, none⟩) 0 0) [] := by simpa using (OwnI.lit0 (w.drew.alloc (.cells #[.int .i64 x] 3)) w.heap.size (by simp))
   have l1 : Ints ((w.drew.alloc (.cells #[.int .i64 x] 3)).alloc (.cells #[] 3)) w.heap.size (.slice (some ⟨w.heap.size, 0, none⟩) 1 1) [x] := (Ints.one w.drew w.heap.size x (by simp)).ext ((Ext.refl _).alloc _)
   refine step_app rfl (.tmp 7) (.tmp 10) rfl rfl rfl (l0) (by first | exact ht.ext qXo | exact Ints.nil _ w.heap.size _ _ (by omega) (by simp)) (by simp <;> omega) (by first | assumption | (simp; done) | (simp; omega) | omega) ?_
   intro v4 w4 o4 gr4 bl4 eq4
   refine hK.out _ _ trivial (fun hHeld => ?_)
   clear hK K
   try simp only [Act.put, qa, qb, qc, qD, qE, qF]
   have X4 : Ext w w4 := Ext.below (show Ext w _ from qXo) bl4 (by simp)
   have z4 : w.heap.size ≤ w4.heap.size := X4.size
   replace l1 := l1.keepG gr4 (fun b off h _ => by cases h; show (some (w.heap.size + 1) : Option Nat) ≠ some w.heap.size; simp)
   refine qHr 7 rfl (fun K hK => ?_)
   refine step_app rfl (.tmp 11) (.tmp 13) rfl rfl rfl (o4) (l1) (by simp <;> omega) (by first | assumption | (simp; done) | (simp; omega) | omega) ?_
   intro v7 w7 o7 gr7 bl7 eq7
   refine hK.out _ _ trivial (fun hHeld => ?_)
   clear hK K
   try simp only [Act.put, qa, qb, qc, qD, qE, qF]
   have X7 : Ext w w7 := Ext.below (X4) bl7 (Nat.le_refl _)
   have z7 : w.heap.size ≤ w7.heap.size := X7.size
   refine qHr 11 rfl (fun K hK => ?_)
   refine step_app rfl (.tmp 14) (.tmp 17) rfl rfl rfl (o7) (by first | exact hd.ext X7 | exact Ints.nil _ w.heap.size _ _ (by omega) (by simp)) (by simp <;> omega) (by first | assumption | (simp; done) | (simp; omega) | omega) ?_
   intro v11 w11 o11 gr11 bl11 eq11
   refine hK.out _ _ trivial (fun hHeld => ?_)
   clear hK K
   try simp only [Act.put, qa, qb, qc, qD, qE, qF]
   have X11 : Ext w w11 := Ext.below X7 bl11 (Nat.le_refl _)
   refine qHr 12 rfl (fun K hK => ?_)
   try simp only [Act.put, qa, qb, qc, qD, qE, qF]
   go_simp
   refine hK.out _ _ trivial (fun hHeld => ?_)
   clear hK K
   try simp only [Act.put, qa, qb, qc, qD, qE, qF]
   refine wpAnyH_done qKr ?_ _
   clear hHeld
   go_wp2_with fail
   refine bodyPost_ret (v := v11) (by simp only [results, Try.results117]; go_simp) rfl ?_
   exact PInts.mkz (by first | exact o11.z | (rw [List.drop_eq_nil_of_le hc]; exact o11.z)) (Nat.le_refl _) (by simp <;> omega) X11
 ·
  subst hne
  obtain rfl : i = 0 := by simpa using hi
  rcases a with _ | A
  ·
   obtain rfl : c = 0 := hb2.2 rfl
   have hd := hv0
   simp only [List.length_nil, Int.ofNat_zero, Int.natCast_zero, List.take_nil, List.drop_nil] at *
   go_enter Try.func117, Try.ntmps117
   go_wp2_with fail
   refine wp_region_held_drew (S := fun _ => True) qKr trivial (fun hHeld => ?_)
   refine qHk (v := ?_) 1 rfl (.inl ⟨by rfl, ?_⟩) ?_
   rotate_left
   ·
    (intro w hSw; (try dsimp only at hSw); go_simp; try with_reducible rfl)
   try simp only [Act.put, qa, qb, qc, qD, qE, qF]
   refine qHk (v := ?_) 2 rfl (.inl ⟨by rfl, ?_⟩) ?_
   rotate_left
   ·
    (intro w hSw; (try dsimp only at hSw); go_simp; try with_reducible rfl)
   try simp only [Act.put, qa, qb, qc, qD, qE, qF]
   refine qHk (v := ?_) 3 rfl (.inl ⟨by rfl, ?_⟩) ?_
   rotate_left
   ·
    (intro w hSw; (try dsimp only at hSw); go_simp; try with_reducible rfl)
   try simp only [Act.put, qa, qb, qc, qD, qE, qF]
   refine qHk (v := ?_) 5 rfl (.inl ⟨by rfl, ?_⟩) ?_
   rotate_left
   ·
    (intro w hSw; (try dsimp only at hSw); go_simp; try with_reducible rfl)
   try simp only [Act.put, qa, qb, qc, qD, qE, qF]
   refine qHk (v := ?_) 8 rfl (.inl ⟨by rfl, ?_⟩) ?_
   rotate_left
   ·
    (intro w hSw; (try dsimp only at hSw); go_simp; try with_reducible rfl)
   try simp only [Act.put, qa, qb, qc, qD, qE, qF]
   refine qHk (v := ?_) 9 rfl (.inl ⟨by rfl, ?_⟩) ?_
   rotate_left
   ·
    (intro w hSw; (try dsimp only at hSw); go_simp; try with_reducible rfl)
   try simp only [Act.put, qa, qb, qc, qD, qE, qF]
   refine qHk (v := ?_) 10 rfl (.inl ⟨by rfl, ?_⟩) ?_
   rotate_left
   ·
    (intro w hSw; (try dsimp only at hSw); go_simp; try with_reducible rfl)
   try simp only [Act.put, qa, qb, qc, qD, qE, qF]
   refine wpAnyH_ready (rs := [0, 6]) qKr (by simp) ?_
   refine AllReadyH.cons rfl (fun K hK => ?_) (AllReadyH.cons rfl (fun K hK => ?_) AllReadyH.nil)
   ·
    skip
    try simp only [Act.put, qa, qb, qc, qD, qE, qF]
    go_simp
    refine hK.out _ _ trivial (fun hHeld => ?_)
    clear hK K
    try simp only [Act.put, qa, qb, qc, qD, qE, qF]
    refine wpAnyH_ready (rs := [4, 6]) qKr (by simp) ?_
    refine AllReadyH.cons rfl (fun K hK => ?_) (AllReadyH.cons rfl (fun K hK => ?_) AllReadyH.nil)
    ·
     skip
     refine step_app rfl (.tmp 7) (.tmp 10) rfl rfl rfl (OwnI.lit0 _ w.heap.size (by simp)) (by first | exact ht.ext qXo | exact Ints.nil _ w.heap.size _ _ (by omega) (by simp)) (by simp <;> omega) (by first | assumption | (simp; done) | (simp; omega) | omega) ?_
     intro v4 w4 o4 gr4 bl4 eq4
     refine hK.out _ _ trivial (fun hHeld => ?_)
     clear hK K
     try simp only [Act.put, qa, qb, qc, qD, qE, qF]
     have X4 : Ext w w4 := Ext.below (show Ext w _ from qXo) bl4 (by simp)
     have z4 : w.heap.size ≤ w4.heap.size := X4.size
     refine qHr 6 rfl (fun K hK => ?_)
     try simp only [Act.put, qa, qb, qc, qD, qE, qF]
     go_simp
     refine hK.out _ _ trivial (fun hHeld => ?_)
     clear hK K
     try simp only [Act.put, qa, qb, qc, qD, qE, qF]
     replace o4 := o4.ext (show Ext w4 (w4.alloc (.cells #[.int .i64 x] 3)) from qXo)
     refine qHr 7 rfl (fun K hK => ?_)
     refine step_app rfl (.tmp 11) (.tmp 13) rfl rfl rfl (o4) (Ints.one w4 w.heap.size x z4) (by simp <;> omega) (by first | assumption | (simp; done) | (simp; omega) | omega) ?_
     intro v7 w7 o7 gr7 bl7 eq7
     refine hK.out _ _ trivial (fun hHeld => ?_)
     clear hK K
     try simp only [Act.put, qa, qb, qc, qD, qE, qF]
     have X7 : Ext w w7 := Ext.below (X4.trans qXo) bl7 (Nat.le_refl _)
     have z7 : w.heap.size ≤ w7.heap.size := X7.size
     refine qHr 11 rfl (fun K hK => ?_)
     refine step_app rfl (.tmp 14) (.tmp 17) rfl rfl rfl (o7) (by first | exact hd.ext X7 | exact Ints.nil _ w.heap.size _ _ (by omega) (by simp)) (by simp <;> omega) (by first | assumption | (simp; done) | (simp; omega) | omega) ?_
     intro v11 w11 o11 gr11 bl11 eq11
     refine hK.out _ _ trivial (fun hHeld => ?_)
     clear hK K
     try simp only [Act.put, qa, qb, qc, qD, qE, qF]
     have X11 : Ext w w11 := Ext.below X7 bl11 (Nat.le_refl _)
     refine qHr 12 rfl (fun K hK => ?_)
     try simp only [Act.put, qa, qb, qc, qD, qE, qF]
     go_simp
     refine hK.out _ _ trivial (fun hHeld => ?_)
     clear hK K
     try simp only [Act.put, qa, qb, qc, qD, qE, qF]
     refine wpAnyH_done qKr ?_ _
     clear hHeld
     go_wp2_with fail
     refine bodyPost_ret (v := v11) (by simp only [results, Try.results117]; go_simp) rfl ?_
     exact PInts.mkz (by first | exact o11.z | (rw [List.drop_eq_nil_of_le hc]; exact o11.z)) (Nat.le_refl _) (by simp <;> omega) X11
    ·
     skip
     try simp only [Act.put, qa, qb, qc, qD, qE, qF]
     go_simp
     refine hK.out _ _ trivial (fun hHeld => ?_)
     clear hK K
     try simp only [Act.put, qa, qb, qc, qD, qE, qF]
     refine qHr 4 rfl (fun K hK => ?_)
     have l0 : OwnI ((w.drew.alloc (.cells #[] 3)).alloc (.cells #[.int .i64 x] 3)) w.heap.size (.slice (some ⟨w.heap.size, 0, none⟩) 0 0) [] := (OwnI.lit0 w.drew w.heap.size (by simp)).ext ((Ext.refl _).alloc _)
     have l1 : Ints ((w.drew.alloc (.cells #[] 3)).alloc (.cells #[.int .i64 x] 3)) w.heap.size (.slice (some ⟨w.heap.size + 1, 0, none⟩) 1 1) [x] := by simpa using Ints.one (w.drew.alloc (.cells #[] 3)) w.heap.size x (by simp)
     refine step_app rfl (.tmp 7) (.tmp 10) rfl rfl rfl (l0) (by first | exact ht.ext qXo | exact Ints.nil _ w.heap.size _ _ (by omega) (by simp)) (by simp <;> omega) (by first | assumption | (simp; done) | (simp; omega) | omega) ?_
     intro v4 w4 o4 gr4 bl4 eq4
     refine hK.out _ _ trivial (fun hHeld => ?_)
     clear hK K
     try simp only [Act.put, qa, qb, qc, qD, qE, qF]
     have X4 : Ext w w4 := Ext.below (show Ext w _ from qXo) bl4 (by simp)
     have z4 : w.heap.size ≤ w4.heap.size := X4.size
     replace l1 := l1.keepG gr4 (fun b off h _ => by cases h; show (some w.heap.size : Option Nat) ≠ some (w.heap.size + 1); simp)
     refine qHr 7 rfl (fun K hK => ?_)
     refine step_app rfl (.tmp 11) (.tmp 13) rfl rfl rfl (o4) (l1) (by simp <;> omega) (by first | assumption | (simp; done) | (simp; omega) | omega) ?_
     intro v7 w7 o7 gr7 bl7 eq7
     refine hK.out _ _ trivial (fun hHeld => ?_)
     clear hK K
     try simp only [Act.put, qa, qb, qc, qD, qE, qF]
     have X7 : Ext w w7 := Ext.below (X4) bl7 (Nat.le_refl _)
     have z7 : w.heap.size ≤ w7.heap.size := X7.size
     refine qHr 11 rfl (fun K hK => ?_)
     refine step_app rfl (.tmp 14) (.tmp 17) rfl rfl rfl (o7) (by first | exact hd.ext X7 | exact Ints.nil _ w.heap.size _ _ (by omega) (by simp)) (by simp <;> omega) (by first | assumption | (simp; done) | (simp; omega) | omega) ?_
     intro v11 w11 o11 gr11 bl11 eq11
     refine hK.out _ _ trivial (fun hHeld => ?_)
     clear hK K
     try simp only [Act.put, qa, qb, qc, qD, qE, qF]
     have X11 : Ext w w11 := Ext.below X7 bl11 (Nat.le_refl _)
     refine qHr 12 rfl (fun K hK => ?_)
     try simp only [Act.put, qa, qb, qc, qD, qE, qF]
     go_simp
     refine hK.out _ _ trivial (fun hHeld => ?_)
     clear hK K
     try simp only [Act.put, qa, qb, qc, qD, qE, qF]
     refine wpAnyH_done qKr ?_ _
     clear hHeld
     go_wp2_with fail
     refine bodyPost_ret (v := v11) (by simp only [results, Try.results117]; go_simp) rfl ?_
     exact PInts.mkz (by first | exact o11.z | (rw [List.drop_eq_nil_of_le hc]; exact o11.z)) (Nat.le_refl _) (by simp <;> omega) X11
   ·
    skip
    try simp only [Act.put, qa, qb, qc, qD, qE, qF]
    go_simp
    refine hK.out _ _ trivial (fun hHeld => ?_)
    clear hK K
    try simp only [Act.put, qa, qb, qc, qD, qE, qF]
    refine qHr 0 rfl (fun K hK => ?_)
    try simp only [Act.put, qa, qb, qc, qD, qE, qF]
    go_simp
    refine hK.out _ _ trivial (fun hHeld => ?_)
    clear hK K
    try simp only [Act.put, qa, qb, qc, qD, qE, qF]
    refine qHr 4 rfl (fun K hK => ?_)
    have l0 : OwnI ((w.drew.alloc (.cells #[.int .i64 x] 3)).alloc (.cells #[] 3)) w.heap.size (.slice (some ⟨w.heap.size + 1, 0, none⟩) 0 0) [] := by simpa using (OwnI.lit0 (w.drew.alloc (.cells #[.int .i64 x] 3)) w.heap.size (by simp))
    have l1 : Ints ((w.drew.alloc (.cells #[.int .i64 x] 3)).alloc (.cells #[] 3)) w.heap.size (.slice (some ⟨w.heap.size, 0, none⟩) 1 1) [x] := (Ints.one w.drew w.heap.size x (by simp)).ext ((Ext.refl _).alloc _)
    refine step_app rfl (.tmp 7) (.tmp 10) rfl rfl rfl (l0) (by first | exact ht.ext qXo | exact Ints.nil _ w.heap.size _ _ (by omega) (by simp)) (by simp <;> omega) (by first | assumption | (simp; done) | (simp; omega) | omega) ?_
    intro v4 w4 o4 gr4 bl4 eq4
    refine hK.out _ _ trivial (fun hHeld => ?_)
    clear hK K
    try simp only [Act.put, qa, qb, qc, qD, qE, qF]
    have X4 : Ext w w4 := Ext.below (show Ext w _ from qXo) bl4 (by simp)
    have z4 : w.heap.size ≤ w4.heap.size := X4.size
    replace l1 := l1.keepG gr4 (fun b off h _ => by cases h; show (some (w.heap.size + 1) : Option Nat) ≠ some w.heap.size; simp)
    refine qHr 7 rfl (fun K hK => ?_)
    refine step_app rfl (.tmp 11) (.tmp 13) rfl rfl rfl (o4) (l1) (by simp <;> omega) (by first | assumption | (simp; done) | (simp; omega) | omega) ?_
    intro v7 w7 o7 gr7 bl7 eq7
    refine hK.out _ _ trivial (fun hHeld => ?_)
    clear hK K
    try simp only [Act.put, qa, qb, qc, qD, qE, qF]
    have X7 : Ext w w7 := Ext.below (X4) bl7 (Nat.le_refl _)
    have z7 : w.heap.size ≤ w7.heap.size := X7.size
    refine qHr 11 rfl (fun K hK => ?_)
    refine step_app rfl (.tmp 14) (.tmp 17) rfl rfl rfl (o7) (by first | exact hd.ext X7 | exact Ints.nil _ w.heap.size _ _ (by omega) (by simp)) (by simp <;> omega) (by first | assumption | (simp; done) | (simp; omega) | omega) ?_
    intro v11 w11 o11 gr11 bl11 eq11
    refine hK.out _ _ trivial (fun hHeld => ?_)
    clear hK K
    try simp only [Act.put, qa, qb, qc, qD, qE, qF]
    have X11 : Ext w w11 := Ext.below X7 bl11 (Nat.le_refl _)
    refine qHr 12 rfl (fun K hK => ?_)
    try simp only [Act.put, qa, qb, qc, qD, qE, qF]
    go_simp
    refine hK.out _ _ trivial (fun hHeld => ?_)
    clear hK K
    try simp only [Act.put, qa, qb, qc, qD, qE, qF]
    refine wpAnyH_done qKr ?_ _
    clear hHeld
    go_wp2_with fail
    refine bodyPost_ret (v := v11) (by simp only [results, Try.results117]; go_simp) rfl ?_
    exact PInts.mkz (by first | exact o11.z | (rw [List.drop_eq_nil_of_le hc]; exact o11.z)) (Nat.le_refl _) (by simp <;> omega) X11
  ·
   by_cases hc0 : c = 0
   ·
    subst hc0
    have hd := hv0
    simp only [List.length_nil, Int.ofNat_zero, Int.natCast_zero, List.take_nil, List.drop_nil] at *
    go_enter Try.func117, Try.ntmps117
    go_wp2_with fail
    refine wp_region_held_drew (S := fun _ => True) qKr trivial (fun hHeld => ?_)
    refine qHk (v := ?_) 1 rfl (.inl ⟨by rfl, ?_⟩) ?_
    rotate_left
    ·
     (intro w hSw; (try dsimp only at hSw); go_simp; try with_reducible rfl)
    try simp only [Act.put, qa, qb, qc, qD, qE, qF]
    refine qHk (v := ?_) 2 rfl (.inl ⟨by rfl, ?_⟩) ?_
    rotate_left
    ·
     (intro w hSw; (try dsimp only at hSw); go_simp; try with_reducible rfl)
    try simp only [Act.put, qa, qb, qc, qD, qE, qF]
    refine qHk (v := ?_) 3 rfl (.inl ⟨by rfl, ?_⟩) ?_
    rotate_left
    ·
     (intro w hSw; (try dsimp only at hSw); go_simp; try with_reducible rfl)
    try simp only [Act.put, qa, qb, qc, qD, qE, qF]
    refine qHk (v := ?_) 5 rfl (.inl ⟨by rfl, ?_⟩) ?_
    rotate_left
    ·
     (intro w hSw; (try dsimp only at hSw); go_simp; try with_reducible rfl)
    try simp only [Act.put, qa, qb, qc, qD, qE, qF]
    refine qHk (v := ?_) 8 rfl (.inl ⟨by rfl, ?_⟩) ?_
    rotate_left
    ·
     (intro w hSw; (try dsimp only at hSw); go_simp; try with_reducible rfl)
    try simp only [Act.put, qa, qb, qc, qD, qE, qF]
    refine qHk (v := ?_) 9 rfl (.inl ⟨by rfl, ?_⟩) ?_
    rotate_left
    ·
     (intro w hSw; (try dsimp only at hSw); go_simp; try with_reducible rfl)
    try simp only [Act.put, qa, qb, qc, qD, qE, qF]
    refine qHk (v := ?_) 10 rfl (.inl ⟨by rfl, ?_⟩) ?_
    rotate_left
    ·
     (intro w hSw; (try dsimp only at hSw); go_simp; try with_reducible rfl)
    try simp only [Act.put, qa, qb, qc, qD, qE, qF]
    refine wpAnyH_ready (rs := [0, 6]) qKr (by simp) ?_
    refine AllReadyH.cons rfl (fun K hK => ?_) (AllReadyH.cons rfl (fun K hK => ?_) AllReadyH.nil)
    ·
     skip
     try simp only [Act.put, qa, qb, qc, qD, qE, qF]
     go_simp
     refine hK.out _ _ trivial (fun hHeld => ?_)
     clear hK K
     try simp only [Act.put, qa, qb, qc, qD, qE, qF]
     refine wpAnyH_ready (rs := [4, 6]) qKr (by simp) ?_
     refine AllReadyH.cons rfl (fun K hK => ?_) (AllReadyH.cons rfl (fun K hK => ?_) AllReadyH.nil)
     ·
      skip
      refine step_app rfl (.tmp 7) (.tmp 10) rfl rfl rfl (OwnI.lit0 _ w.heap.size (by simp)) (by first | exact ht.ext qXo | exact Ints.nil _ w.heap.size _ _ (by omega) (by simp)) (by simp <;> omega) (by first | assumption | (simp; done) | (simp; omega) | omega) ?_
      intro v4 w4 o4 gr4 bl4 eq4
      refine hK.out _ _ trivial (fun hHeld => ?_)
      clear hK K
      try simp only [Act.put, qa, qb, qc, qD, qE, qF]
      have X4 : Ext w w4 := Ext.below (show Ext w _ from qXo) bl4 (by simp)
      have z4 : w.heap.size ≤ w4.heap.size := X4.size
      refine qHr 6 rfl (fun K hK => ?_)
      try simp only [Act.put, qa, qb, qc, qD, qE, qF]
      go_simp
      refine hK.out _ _ trivial (fun hHeld => ?_)
      clear hK K
      try simp only [Act.put, qa, qb, qc, qD, qE, qF]
      replace o4 := o4.ext (show Ext w4 (w4.alloc (.cells #[.int .i64 x] 3)) from qXo)
      refine qHr 7 rfl (fun K hK => ?_)
      refine step_app rfl (.tmp 11) (.tmp 13) rfl rfl rfl (o4) (Ints.one w4 w.heap.size x z4) (by simp <;> omega) (by first | assumption | (simp; done) | (simp; omega) | omega) ?_
      intro v7 w7 o7 gr7 bl7 eq7
      refine hK.out _ _ trivial (fun hHeld => ?_)
      clear hK K
      try simp only [Act.put, qa, qb, qc, qD, qE, qF]
      have X7 : Ext w w7 := Ext.below (X4.trans qXo) bl7 (Nat.le_refl _)
      have z7 : w.heap.size ≤ w7.heap.size := X7.size
      refine qHr 11 rfl (fun K hK => ?_)
      refine step_app rfl (.tmp 14) (.tmp 17) rfl rfl rfl (o7) (by first | exact hd.ext X7 | exact Ints.nil _ w.heap.size _ _ (by omega) (by simp)) (by simp <;> omega) (by first | assumption | (simp; done) | (simp; omega) | omega) ?_
      intro v11 w11 o11 gr11 bl11 eq11
      refine hK.out _ _ trivial (fun hHeld => ?_)
      clear hK K
      try simp only [Act.put, qa, qb, qc, qD, qE, qF]
      have X11 : Ext w w11 := Ext.below X7 bl11 (Nat.le_refl _)
      refine qHr 12 rfl (fun K hK => ?_)
      try simp only [Act.put, qa, qb, qc, qD, qE, qF]
      go_simp
      refine hK.out _ _ trivial (fun hHeld => ?_)
      clear hK K
      try simp only [Act.put, qa, qb, qc, qD, qE, qF]
      refine wpAnyH_done qKr ?_ _
      clear hHeld
      go_wp2_with fail
      refine bodyPost_ret (v := v11) (by simp only [results, Try.results117]; go_simp) rfl ?_
      exact PInts.mkz (by first | exact o11.z | (rw [List.drop_eq_nil_of_le hc]; exact o11.z)) (Nat.le_refl _) (by simp <;> omega) X11
     ·
      skip
      try simp only [Act.put, qa, qb, qc, qD, qE, qF]
      go_simp
      refine hK.out _ _ trivial (fun hHeld => ?_)
      clear hK K
      try simp only [Act.put, qa, qb, qc, qD, qE, qF]
      refine qHr 4 rfl (fun K hK => ?_)
      have l0 : OwnI ((w.drew.alloc (.cells #[] 3)).alloc (.cells #[.int .i64 x] 3)) w.heap.size (.slice (some ⟨w.heap.size, 0, none⟩) 0 0) [] := (OwnI.lit0 w.drew w.heap.size (by simp)).ext ((Ext.refl _).alloc _)
      have l1 : Ints ((w.drew.alloc (.cells #[] 3)).alloc (.cells #[.int .i64 x] 3)) w.heap.size (.slice (some ⟨w.heap.size + 1, 0, none⟩) 1 1) [x] := by simpa using Ints.one (w.drew.alloc (.cells #[] 3)) w.heap.size x (by simp)
      refine step_app rfl (.tmp 7) (.tmp 10) rfl rfl rfl (l0) (by first | exact ht.ext qXo | exact Ints.nil _ w.heap.size _ _ (by omega) (by simp)) (by simp <;> omega) (by first | assumption | (simp; done) | (simp; omega) | omega) ?_
      intro v4 w4 o4 gr4 bl4 eq4
      refine hK.out _ _ trivial (fun hHeld => ?_)
      clear hK K
      try simp only [Act.put, qa, qb, qc, qD, qE, qF]
      have X4 : Ext w w4 := Ext.below (show Ext w _ from qXo) bl4 (by simp)
      have z4 : w.heap.size ≤ w4.heap.size := X4.size
      replace l1 := l1.keepG gr4 (fun b off h _ => by cases h; show (some w.heap.size : Option Nat) ≠ some (w.heap.size + 1); simp)
      refine qHr 7 rfl (fun K hK => ?_)
      refine step_app rfl (.tmp 11) (.tmp 13) rfl rfl rfl (o4) (l1) (by simp <;> omega) (by first | assumption | (simp; done) | (simp; omega) | omega) ?_
      intro v7 w7 o7 gr7 bl7 eq7
      refine hK.out _ _ trivial (fun hHeld => ?_)
      clear hK K
      try simp only [Act.put, qa, qb, qc, qD, qE, qF]
      have X7 : Ext w w7 := Ext.below (X4) bl7 (Nat.le_refl _)
      have z7 : w.heap.size ≤ w7.heap.size := X7.size
      refine qHr 11 rfl (fun K hK => ?_)
      refine step_app rfl (.tmp 14) (.tmp 17) rfl rfl rfl (o7) (by first | exact hd.ext X7 | exact Ints.nil _ w.heap.size _ _ (by omega) (by simp)) (by simp <;> omega) (by first | assumption | (simp; done) | (simp; omega) | omega) ?_
      intro v11 w11 o11 gr11 bl11 eq11
      refine hK.out _ _ trivial (fun hHeld => ?_)
      clear hK K
      try simp only [Act.put, qa, qb, qc, qD, qE, qF]
      have X11 : Ext w w11 := Ext.below X7 bl11 (Nat.le_refl _)
      refine qHr 12 rfl (fun K hK => ?_)
      try simp only [Act.put, qa, qb, qc, qD, qE, qF]
      go_simp
      refine hK.out _ _ trivial (fun hHeld => ?_)
      clear hK K
      try simp only [Act.put, qa, qb, qc, qD, qE, qF]
      refine wpAnyH_done qKr ?_ _
      clear hHeld
      go_wp2_with fail
      refine bodyPost_ret (v := v11) (by simp only [results, Try.results117]; go_simp) rfl ?_
      exact PInts.mkz (by first | exact o11.z | (rw [List.drop_eq_nil_of_le hc]; exact o11.z)) (Nat.le_refl _) (by simp <;> omega) X11
    ·
     skip
     try simp only [Act.put, qa, qb, qc, qD, qE, qF]
     go_simp
     refine hK.out _ _ trivial (fun hHeld => ?_)
     clear hK K
     try simp only [Act.put, qa, qb, qc, qD, qE, qF]
     refine qHr 0 rfl (fun K hK => ?_)
     try simp only [Act.put, qa, qb, qc, qD, qE, qF]
     go_simp
     refine hK.out _ _ trivial (fun hHeld => ?_)
     clear hK K
     try simp only [Act.put, qa, qb, qc, qD, qE, qF]
     refine qHr 4 rfl (fun K hK => ?_)
     have l0 : OwnI ((w.drew.alloc (.cells #[.int .i64 x] 3)).alloc (.cells #[] 3)) w.heap.size (.slice (some ⟨w.heap.size + 1, 0, none⟩) 0 0) [] := by simpa using (OwnI.lit0 (w.drew.alloc (.cells #[.int .i64 x] 3)) w.heap.size (by simp))
     have l1 : Ints ((w.drew.alloc (.cells #[.int .i64 x] 3)).alloc (.cells #[] 3)) w.heap.size (.slice (some ⟨w.heap.size, 0, none⟩) 1 1) [x] := (Ints.one w.drew w.heap.size x (by simp)).ext ((Ext.refl _).alloc _)
     refine step_app rfl (.tmp 7) (.tmp 10) rfl rfl rfl (l0) (by first | exact ht.ext qXo | exact Ints.nil _ w.heap.size _ _ (by omega) (by simp)) (by simp <;> omega) (by first | assumption | (simp; done) | (simp; omega) | omega) ?_
     intro v4 w4 o4 gr4 bl4 eq4
     refine hK.out _ _ trivial (fun hHeld => ?_)
     clear hK K
     try simp only [Act.put, qa, qb, qc, qD, qE, qF]
     have X4 : Ext w w4 := Ext.below (show Ext w _ from qXo) bl4 (by simp)
     have z4 : w.heap.size ≤ w4.heap.size := X4.size
     replace l1 := l1.keepG gr4 (fun b off h _ => by cases h; show (some (w.heap.size + 1) : Option Nat) ≠ some w.heap.size; simp)
     refine qHr 7 rfl (fun K hK => ?_)
     refine step_app rfl (.tmp 11) (.tmp 13) rfl rfl rfl (o4) (l1) (by simp <;> omega) (by first | assumption | (simp; done) | (simp; omega) | omega) ?_
     intro v7 w7 o7 gr7 bl7 eq7
     refine hK.out _ _ trivial (fun hHeld => ?_)
     clear hK K
     try simp only [Act.put, qa, qb, qc, qD, qE, qF]
     have X7 : Ext w w7 := Ext.below (X4) bl7 (Nat.le_refl _)
     have z7 : w.heap.size ≤ w7.heap.size := X7.size
     refine qHr 11 rfl (fun K hK => ?_)
     refine step_app rfl (.tmp 14) (.tmp 17) rfl rfl rfl (o7) (by first | exact hd.ext X7 | exact Ints.nil _ w.heap.size _ _ (by omega) (by simp)) (by simp <;> omega) (by first | assumption | (simp; done) | (simp; omega) | omega) ?_
     intro v11 w11 o11 gr11 bl11 eq11
     refine hK.out _ _ trivial (fun hHeld => ?_)
     clear hK K
     try simp only [Act.put, qa, qb, qc, qD, qE, qF]
     have X11 : Ext w w11 := Ext.below X7 bl11 (Nat.le_refl _)
     refine qHr 12 rfl (fun K hK => ?_)
     try simp only [Act.put, qa, qb, qc, qD, qE, qF]
     go_simp
     refine hK.out _ _ trivial (fun hHeld => ?_)
     clear hK K
     try simp only [Act.put, qa, qb, qc, qD, qE, qF]
     refine wpAnyH_done qKr ?_ _
     clear hHeld
     go_wp2_with fail
     refine bodyPost_ret (v := v11) (by simp only [results, Try.results117]; go_simp) rfl ?_
     exact PInts.mkz (by first | exact o11.z | (rw [List.drop_eq_nil_of_le hc]; exact o11.z)) (Nat.le_refl _) (by simp <;> omega) X11
   ·
    have hd := hv0
    simp only [List.length_nil, Int.ofNat_zero, Int.natCast_zero, List.take_nil, List.drop_nil] at *
    go_enter Try.func117, Try.ntmps117
    go_wp2_with fail
    refine wp_region_held_drew (S := fun _ => True) qKr trivial (fun hHeld => ?_)
    refine qHk (v := ?_) 1 rfl (.inl ⟨by rfl, ?_⟩) ?_
    rotate_left
    ·
     (intro w hSw; (try dsimp only at hSw); go_simp; try with_reducible rfl)
    try simp only [Act.put, qa, qb, qc, qD, qE, qF]
    refine qHk (v := ?_) 2 rfl (.inl ⟨by rfl, ?_⟩) ?_
    rotate_left
    ·
     (intro w hSw; (try dsimp only at hSw); go_simp; try with_reducible rfl)
    try simp only [Act.put, qa, qb, qc, qD, qE, qF]
    refine qHk (v := ?_) 3 rfl (.inl ⟨by rfl, ?_⟩) ?_
    rotate_left
    ·
     (intro w hSw; (try dsimp only at hSw); go_simp; try with_reducible rfl)
    try simp only [Act.put, qa, qb, qc, qD, qE, qF]
    refine qHk (v := ?_) 5 rfl (.inl ⟨by rfl, ?_⟩) ?_
    rotate_left
    ·
     (intro w hSw; (try dsimp only at hSw); go_simp; try with_reducible rfl)
    try simp only [Act.put, qa, qb, qc, qD, qE, qF]
    refine qHk (v := ?_) 8 rfl (.inl ⟨by rfl, ?_⟩) ?_
    rotate_left
    ·
     (intro w hSw; (try dsimp only at hSw); go_simp; try with_reducible rfl)
    try simp only [Act.put, qa, qb, qc, qD, qE, qF]
    refine qHk (v := ?_) 9 rfl (.inl ⟨by rfl, ?_⟩) ?_
    rotate_left
    ·
     (intro w hSw; (try dsimp only at hSw); go_simp; try with_reducible rfl)
    try simp only [Act.put, qa, qb, qc, qD, qE, qF]
    refine qHk (v := ?_) 10 rfl (.inl ⟨by rfl, ?_⟩) ?_
    rotate_left
    ·
     (intro w hSw; (try dsimp only at hSw); go_simp; try with_reducible rfl)
    try simp only [Act.put, qa, qb, qc, qD, qE, qF]
    refine wpAnyH_ready (rs := [0, 6]) qKr (by simp) ?_
    refine AllReadyH.cons rfl (fun K hK => ?_) (AllReadyH.cons rfl (fun K hK => ?_) AllReadyH.nil)
    ·
     skip
     try simp only [Act.put, qa, qb, qc, qD, qE, qF]
     go_simp
     refine hK.out _ _ trivial (fun hHeld => ?_)
     clear hK K
     try simp only [Act.put, qa, qb, qc, qD, qE, qF]
     refine wpAnyH_ready (rs := [4, 6]) qKr (by simp) ?_
     refine AllReadyH.cons rfl (fun K hK => ?_) (AllReadyH.cons rfl (fun K hK => ?_) AllReadyH.nil)
     ·
      skip
      refine step_app rfl (.tmp 7) (.tmp 10) rfl rfl rfl (OwnI.lit0 _ w.heap.size (by simp)) (by first | exact ht.ext qXo | exact Ints.nil _ w.heap.size _ _ (by omega) (by simp)) (by simp <;> omega) (by first | assumption | (simp; done) | (simp; omega) | omega) ?_
      intro v4 w4 o4 gr4 bl4 eq4
      refine hK.out _ _ trivial (fun hHeld => ?_)
      clear hK K
      try simp only [Act.put, qa, qb, qc, qD, qE, qF]
      have X4 : Ext w w4 := Ext.below (show Ext w _ from qXo) bl4 (by simp)
      have z4 : w.heap.size ≤ w4.heap.size := X4.size
      refine qHr 6 rfl (fun K hK => ?_)
      try simp only [Act.put, qa, qb, qc, qD, qE, qF]
      go_simp
      refine hK.out _ _ trivial (fun hHeld => ?_)
      clear hK K
      try simp only [Act.put, qa, qb, qc, qD, qE, qF]
      replace o4 := o4.ext (show Ext w4 (w4.alloc (.cells #[.int .i64 x] 3)) from qXo)
      refine qHr 7 rfl (fun K hK => ?_)
      refine step_app rfl (.tmp 11) (.tmp 13) rfl rfl rfl (o4) (Ints.one w4 w.heap.size x z4) (by simp <;> omega) (by first | assumption | (simp; done) | (simp; omega) | omega) ?_
      intro v7 w7 o7 gr7 bl7 eq7
      refine hK.out _ _ trivial (fun hHeld => ?_)
      clear hK K
      try simp only [Act.put, qa, qb, qc, qD, qE, qF]
      have X7 : Ext w w7 := Ext.below (X4.trans qXo) bl7 (Nat.le_refl _)
      have z7 : w.heap.size ≤ w7.heap.size := X7.size
      refine qHr 11 rfl (fun K hK => ?_)
      refine step_app rfl (.tmp 14) (.tmp 17) rfl rfl rfl (o7) (by first | exact hd.ext X7 | exact Ints.nil _ w.heap.size _ _ (by omega) (by simp)) (by simp <;> omega) (by first | assumption | (simp; done) | (simp; omega) | omega) ?_
      intro v11 w11 o11 gr11 bl11 eq11
      refine hK.out _ _ trivial (fun hHeld => ?_)
      clear hK K
      try simp only [Act.put, qa, qb, qc, qD, qE, qF]
      have X11 : Ext w w11 := Ext.below X7 bl11 (Nat.le_refl _)
      refine qHr 12 rfl (fun K hK => ?_)
      try simp only [Act.put, qa, qb, qc, qD, qE, qF]
      go_simp
      refine hK.out _ _ trivial (fun hHeld => ?_)
      clear hK K
      try simp only [Act.put, qa, qb, qc, qD, qE, qF]
      refine wpAnyH_done qKr ?_ _
      clear hHeld
      go_wp2_with fail
      refine bodyPost_ret (v := v11) (by simp only [results, Try.results117]; go_simp) rfl ?_
      exact PInts.mkz (by first | exact o11.z | (rw [List.drop_eq_nil_of_le hc]; exact o11.z)) (Nat.le_refl _) (by simp <;> omega) X11
     ·
      skip
      try simp only [Act.put, qa, qb, qc, qD, qE, qF]
      go_simp
      refine hK.out _ _ trivial (fun hHeld => ?_)
      clear hK K
      try simp only [Act.put, qa, qb, qc, qD, qE, qF]
      refine qHr 4 rfl (fun K hK => ?_)
      have l0 : OwnI ((w.drew.alloc (.cells #[] 3)).alloc (.cells #[.int .i64 x] 3)) w.heap.size (.slice (some ⟨w.heap.size, 0, none⟩) 0 0) [] := (OwnI.lit0 w.drew w.heap.size (by simp)).ext ((Ext.refl _).alloc _)
      have l1 : Ints ((w.drew.alloc (.cells #[] 3)).alloc (.cells #[.int .i64 x] 3)) w.heap.size (.slice (some ⟨w.heap.size + 1, 0, none⟩) 1 1) [x] := by simpa using Ints.one (w.drew.alloc (.cells #[] 3)) w.heap.size x (by simp)
      refine step_app rfl (.tmp 7) (.tmp 10) rfl rfl rfl (l0) (by first | exact ht.ext qXo | exact Ints.nil _ w.heap.size _ _ (by omega) (by simp)) (by simp <;> omega) (by first | assumption | (simp; done) | (simp; omega) | omega) ?_
      intro v4 w4 o4 gr4 bl4 eq4
      refine hK.out _ _ trivial (fun hHeld => ?_)
      clear hK K
      try simp only [Act.put, qa, qb, qc, qD, qE, qF]
      have X4 : Ext w w4 := Ext.below (show Ext w _ from qXo) bl4 (by simp)
      have z4 : w.heap.size ≤ w4.heap.size := X4.size
      replace l1 := l1.keepG gr4 (fun b off h _ => by cases h; show (some w.heap.size : Option Nat) ≠ some (w.heap.size + 1); simp)
      refine qHr 7 rfl (fun K hK => ?_)
      refine step_app rfl (.tmp 11) (.tmp 13) rfl rfl rfl (o4) (l1) (by simp <;> omega) (by first | assumption | (simp; done) | (simp; omega) | omega) ?_
      intro v7 w7 o7 gr7 bl7 eq7
      refine hK.out _ _ trivial (fun hHeld => ?_)
      clear hK K
      try simp only [Act.put, qa, qb, qc, qD, qE, qF]
      have X7 : Ext w w7 := Ext.below (X4) bl7 (Nat.le_refl _)
      have z7 : w.heap.size ≤ w7.heap.size := X7.size
      refine qHr 11 rfl (fun K hK => ?_)
      refine step_app rfl (.tmp 14) (.tmp 17) rfl rfl rfl (o7) (by first | exact hd.ext X7 | exact Ints.nil _ w.heap.size _ _ (by omega) (by simp)) (by simp <;> omega) (by first | assumption | (simp; done) | (simp; omega) | omega) ?_
      intro v11 w11 o11 gr11 bl11 eq11
      refine hK.out _ _ trivial (fun hHeld => ?_)
      clear hK K
      try simp only [Act.put, qa, qb, qc, qD, qE, qF]
      have X11 : Ext w w11 := Ext.below X7 bl11 (Nat.le_refl _)
      refine qHr 12 rfl (fun K hK => ?_)
      try simp only [Act.put, qa, qb, qc, qD, qE, qF]
      go_simp
      refine hK.out _ _ trivial (fun hHeld => ?_)
      clear hK K
      try simp only [Act.put, qa, qb, qc, qD, qE, qF]
      refine wpAnyH_done qKr ?_ _
      clear hHeld
      go_wp2_with fail
      refine bodyPost_ret (v := v11) (by simp only [results, Try.results117]; go_simp) rfl ?_
      exact PInts.mkz (by first | exact o11.z | (rw [List.drop_eq_nil_of_le hc]; exact o11.z)) (Nat.le_refl _) (by simp <;> omega) X11
    ·
     skip
     try simp only [Act.put, qa, qb, qc, qD, qE, qF]
     go_simp
     refine hK.out _ _ trivial (fun hHeld => ?_)
     clear hK K
     try simp only [Act.put, qa, qb, qc, qD, qE, qF]
     refine qHr 0 rfl (fun K hK => ?_)
     try simp only [Act.put, qa, qb, qc, qD, qE, qF]
     go_simp
     refine hK.out _ _ trivial (fun hHeld => ?_)
     clear hK K
     try simp only [Act.put, qa, qb, qc, qD, qE, qF]
     refine qHr 4 rfl (fun K hK => ?_)
     have l0 : OwnI ((w.drew.alloc (.cells #[.int .i64 x] 3)).alloc (.cells #[] 3)) w.heap.size (.slice (some ⟨w.heap.size + 1, 0, none⟩) 0 0) [] := by simpa using (OwnI.lit0 (w.drew.alloc (.cells #[.int .i64 x] 3)) w.heap.size (by simp))
     have l1 : Ints ((w.drew.alloc (.cells #[.int .i64 x] 3)).alloc (.cells #[] 3)) w.heap.size (.slice (some ⟨w.heap.size, 0, none⟩) 1 1) [x] := (Ints.one w.drew w.heap.size x (by simp)).ext ((Ext.refl _).alloc _)
     refine step_app rfl (.tmp 7) (.tmp 10) rfl rfl rfl (l0) (by first | exact ht.ext qXo | exact Ints.nil _ w.heap.size _ _ (by omega) (by simp)) (by simp <;> omega) (by first | assumption | (simp; done) | (simp; omega) | omega) ?_
     intro v4 w4 o4 gr4 bl4 eq4
     refine hK.out _ _ trivial (fun hHeld => ?_)
     clear hK K
     try simp only [Act.put, qa, qb, qc, qD, qE, qF]
     have X4 : Ext w w4 := Ext.below (show Ext w _ from qXo) bl4 (by simp)
     have z4 : w.heap.size ≤ w4.heap.size := X4.size
     replace l1 := l1.keepG gr4 (fun b off h _ => by cases h; show (some (w.heap.size + 1) : Option Nat) ≠ some w.heap.size; simp)
     refine qHr 7 rfl (fun K hK => ?_)
     refine step_app rfl (.tmp 11) (.tmp 13) rfl rfl rfl (o4) (l1) (by simp <;> omega) (by first | assumption | (simp; done) | (simp; omega) | omega) ?_
     intro v7 w7 o7 gr7 bl7 eq7
     refine hK.out _ _ trivial (fun hHeld => ?_)
     clear hK K
     try simp only [Act.put, qa, qb, qc, qD, qE, qF]
     have X7 : Ext w w7 := Ext.below (X4) bl7 (Nat.le_refl _)
     have z7 : w.heap.size ≤ w7.heap.size := X7.size
     refine qHr 11 rfl (fun K hK => ?_)
     refine step_app rfl (.tmp 14) (.tmp 17) rfl rfl rfl (o7) (by first | exact hd.ext X7 | exact Ints.nil _ w.heap.size _ _ (by omega) (by simp)) (by simp <;> omega) (by first | assumption | (simp; done) | (simp; omega) | omega) ?_
     intro v11 w11 o11 gr11 bl11 eq11
     refine hK.out _ _ trivial (fun hHeld => ?_)
     clear hK K
     try simp only [Act.put, qa, qb, qc, qD, qE, qF]
     have X11 : Ext w w11 := Ext.below X7 bl11 (Nat.le_refl _)
     refine qHr 12 rfl (fun K hK => ?_)
     try simp only [Act.put, qa, qb, qc, qD, qE, qF]
     go_simp
     refine hK.out _ _ trivial (fun hHeld => ?_)
     clear hK K
     try simp only [Act.put, qa, qb, qc, qD, qE, qF]
     refine wpAnyH_done qKr ?_ _
     clear hHeld
     go_wp2_with fail
     refine bodyPost_ret (v := v11) (by simp only [results, Try.results117]; go_simp) rfl ?_
     exact PInts.mkz (by first | exact o11.z | (rw [List.drop_eq_nil_of_le hc]; exact o11.z)) (Nat.le_refl _) (by simp <;> omega) X11

end Go.Proofs.Ytpgkhjmboiepcaa

/- Walks: made, PermuteDims, FlipDim, AddDim and WindowsOf of the reference. -/
namespace Go.Proofs.Ytpgkhjmboiepcaa
open Go.RowKit
set_option linter.unusedVariables false
set_option maxRecDepth 100000


def madeV (b : Int) (s t : List Int) : VBool := if viewB b s t then (b, s, t, true) else noV
theorem made_c (b1 : Int) (u1 v1 : Value) (s1 t1 : List Int) (w : World) (l1 m1 : Nat) (h1 : Ints w l1 u1 s1) (k1 : Ints w m1 v1 t1) :
  Calls Try.prog 59 #[.agg #[.int .i64 b1, u1, v1]] w (PVB w (madeV b1 s1 t1)) := by
 cases ha : viewB b1 s1 t1
 ·
  have : madeV b1 s1 t1 = noV := by unfold madeV; rw [ha]; rfl
  rw [this]; exact made_0 b1 u1 v1 s1 t1 w l1 m1 h1 k1 ha
 ·
  have : madeV b1 s1 t1 = (b1, s1, t1, true) := by unfold madeV; rw [ha]; rfl
  rw [this]; exact made_1 b1 u1 v1 s1 t1 w l1 m1 h1 k1 ha
theorem PVB.any {w w' : World} {x : VBool} {b : Int} {s t : List Int} {ok : Bool} {v1 v2 : Value} (h : x = (b, s, t, ok)) (o1 : OwnZ w' w.heap.size v1 s) (o2 : OwnZ w' w.heap.size v2 t) (hd : s ≠ [] → t ≠ [] → v1.ownBlock ≠ v2.ownBlock) (l1 : s.length ≤ 4194304) (l2 : t.length ≤ 4194304) (hx : Ext w w') :
  PVB w x (.returned (.tuple #[.agg #[.int .i64 b, v1, v2], .bool ok])) w' := by
 subst h; exact ⟨v1, v2, rfl, o1.ints l1, o2.ints l2, o1, o2, hd, hx⟩
/-- the view of a VBool: as many strides as extents, no more than four -/
def VBool.fit (x : VBool) : Prop := x.2.2.1.length = x.2.1.length ∧ x.2.1.length ≤ 4
theorem noV_fit : VBool.fit noV := ⟨rfl, Nat.zero_le _⟩
theorem view_fit {b : Int} {s t : List Int} {ok : Bool} (h : viewB b s t = true) : VBool.fit (b, s, t, ok) := ⟨(viewB_in h).2.1, (shapeB_in (viewB_in h).1).1⟩
theorem madeV_fit (b : Int) (s t : List Int) : VBool.fit (madeV b s t) := by
 unfold madeV
 cases h : viewB b s t
 ·
  exact noV_fit
 ·
  exact view_fit h
theorem sliceV_fit (b : Int) (s t : List Int) (d F T B : Int) (hf ht : Bool) : VBool.fit (sliceV b s t d F T B hf ht) := by
 unfold sliceV
 split
 ·
  rename_i h
  simp only [Bool.and_eq_true] at h
  obtain ⟨h1, h2, h3⟩ := h
  exact view_fit (sliceV_view h1 (by simp [inB] at h2; omega) h3)
 ·
  exact noV_fit

def flipV (b : Int) (s t : List Int) (d : Int) : VBool := sliceV b s t d 0 0 (-1) false false
def permV (b : Int) (s t ord : List Int) : VBool := if viewB b s t && orderB ord s.length then madeV b (takL s ord) (takL t ord) else noV
def insL (xs : List Int) (i : Nat) (x : Int) : List Int := xs.take i ++ [x] ++ xs.drop i
def addV (b : Int) (s t : List Int) (d : Int) : VBool := if viewB b s t && (inB 0 s.length d && !((s.length : Int) == 4)) then madeV b (insL s d.toNat 1) (insL t d.toNat 0) else noV
def winV (b : Int) (s t : List Int) (d n : Int) : VBool := if viewB b s t && (inB 0 ((s.length : Int) - 1) d && inB 1 (s.getD d.toNat 0) n) then madeV b (s.set d.toNat (s.getD d.toNat 0 - n + 1) ++ [n]) (t ++ [t.getD d.toNat 0]) else noV
theorem permV_fit (b : Int) (s t ord : List Int) : VBool.fit (permV b s t ord) := by unfold permV; split; exact madeV_fit _ _ _; exact noV_fit
theorem addV_fit (b : Int) (s t : List Int) (d : Int) : VBool.fit (addV b s t d) := by unfold addV; split; exact madeV_fit _ _ _; exact noV_fit
theorem winV_fit (b : Int) (s t : List Int) (d n : Int) : VBool.fit (winV b s t d n) := by unfold winV; split; exact madeV_fit _ _ _; exact noV_fit

set_option maxHeartbeats 1600000 in
theorem specFlipDim_c (b1 : Int) (u1 v1 : Value) (s1 t1 : List Int) (d : Int) (w : World) (l1 m1 : Nat) (h1 : Ints w l1 u1 s1) (k1 : Ints w m1 v1 t1) :
  Calls Try.prog 126 #[.agg #[.int .i64 b1, u1, v1], .int .i64 d] w (PVB w (flipV b1 s1 t1 d)) := by
 have hlen1 := ints_len h1
 have hlen2 := ints_len k1
 obtain ⟨a1, cp1, rfl⟩ := h1.form
 obtain ⟨a2, cp2, rfl⟩ := k1.form
 have hsl : ∀ W, Ext w W → Calls Try.prog 124 #[.agg #[.int .i64 b1, .slice a1 s1.length cp1, .slice a2 t1.length cp2], .int .i64 d, .agg #[.int .i64 0, .int .i64 0, .int .i64 (-1), .bool false, .bool false]] W (PVB W (flipV b1 s1 t1 d)) := fun W hW => specSliceDim_c b1 _ _ s1 t1 d 0 0 (-1) false false W l1 m1 (h1.ext hW) (k1.ext hW)
 obtain ⟨x, hr⟩ : ∃ x, flipV b1 s1 t1 d = x := ⟨_, rfl⟩
 rw [hr] at hsl
 obtain ⟨mb, ms, mt, mk⟩ := x
 replace hr := Lib.hid hr
 replace hsl := Lib.hid hsl
 go_enter Try.func126, Try.ntmps126
 go_wp2_with fail
 refine (hsl.out _ qXo).mono ?_
 rintro e w1 ⟨y1, y2, rfl, j1, j2, o1, o2, od, xw1⟩
 have Lw1 : Ext w w1 := Ext.trans qXt xw1
 have Xw1 : Ext w w1 := Lw1
 have va0 : w1.cell? ⟨w.heap.size, 0, none⟩ = some (.int .i64 b1) := xw1.cell qCl
 have va1 : w1.cell? ⟨w.heap.size, 1, none⟩ = some (.slice a1 s1.length cp1) := xw1.cell qCl
 have va2 : w1.cell? ⟨w.heap.size, 2, none⟩ = some (.slice a2 t1.length cp2) := xw1.cell qCl
 have q0 : w1.cell? ⟨w.heap.size + 1, 0, none⟩ = some (.int .i64 0) := xw1.cell qCl
 have q1 : w1.cell? ⟨w.heap.size + 1, 1, none⟩ = some (.slice none 0 0) := xw1.cell qCl
 have q2 : w1.cell? ⟨w.heap.size + 1, 2, none⟩ = some (.slice none 0 0) := xw1.cell qCl
 have f_q0 : w1.frozen? ⟨w.heap.size + 1, 0, none⟩ = false := xw1.frz (by simp <;> omega) qFz
 have f_q1 : w1.frozen? ⟨w.heap.size + 1, 1, none⟩ = false := xw1.frz (by simp <;> omega) qFz
 have f_q2 : w1.frozen? ⟨w.heap.size + 1, 2, none⟩ = false := xw1.frz (by simp <;> omega) qFz
 have z_va : w.heap.size < w1.heap.size := qB va0
 have z_q : w.heap.size + 1 < w1.heap.size := qB q0
 have s_w1 : w.heap.size ≤ w1.heap.size := Xw1.size
 clear xw1
 have hl1 := ints_len j1
 have hl2 := ints_len j2
 clear j1 j2
 replace o1 := o1.lower (show w.heap.size + 2 ≤ _ by first | (simp; done) | (simp; omega) | omega)
 replace o2 := o2.lower (show w.heap.size + 2 ≤ _ by first | (simp; done) | (simp; omega) | omega)
 obtain ⟨p1, n1, r1, rfl⟩ := o1.form
 obtain ⟨p2, n2, r2, rfl⟩ := o2.form
 go_wp2_with fail
 generalize hW1 : (((w1.setCell ⟨w.heap.size + 1, 0, none⟩ (.int .i64 mb)).setCell ⟨w.heap.size + 1, 1, none⟩ (.slice p1 n1 r1)).setCell ⟨w.heap.size + 1, 2, none⟩ (.slice p2 n2 r2)) = w2 at *
 have Kw2 : Chg (w.heap.size + 1) (w.heap.size + 1 + 1) w1 w2 := by subst hW1; exact qCh
 have Xw2 : Ext w w2 := by subst hW1; exact qXt
 replace va0 := Kw2.cell (by omega) va0
 replace va1 := Kw2.cell (by omega) va1
 replace va2 := Kw2.cell (by omega) va2
 replace q0 : w2.cell? ⟨w.heap.size + 1, 0, none⟩ = some (.int .i64 mb) := by subst hW1; go_simp
 replace f_q0 : w2.frozen? ⟨w.heap.size + 1, 0, none⟩ = false := by subst hW1; go_simp
 replace q1 : w2.cell? ⟨w.heap.size + 1, 1, none⟩ = some (.slice p1 n1 r1) := by subst hW1; go_simp
 replace f_q1 : w2.frozen? ⟨w.heap.size + 1, 1, none⟩ = false := by subst hW1; go_simp
 replace q2 : w2.cell? ⟨w.heap.size + 1, 2, none⟩ = some (.slice p2 n2 r2) := by subst hW1; go_simp
 replace f_q2 : w2.frozen? ⟨w.heap.size + 1, 2, none⟩ = false := by subst hW1; go_simp
 replace o1 := o1.chg Kw2 (by omega)
 replace o2 := o2.chg Kw2 (by omega)
 clear Kw2
 have z_va : w.heap.size < w2.heap.size := qB va0
 have z_q : w.heap.size + 1 < w2.heap.size := qB q0
 have s_w2 : w.heap.size ≤ w2.heap.size := Xw2.size
 clear hW1
 refine bodyPost_ret (v := .tuple #[.agg #[.int .i64 mb, .slice p1 n1 r1, .slice p2 n2 r2], .bool mk]) (by simp only [results, Try.results126]; go_simp) rfl ?_
 exact PVB.any (hr.out) (o1.lower (by omega)) (o2.lower (by omega)) od hl1 hl2 Xw2

set_option maxHeartbeats 3200000 in
theorem specPermuteDims_c (b1 : Int) (u1 v1 : Value) (s1 t1 : List Int) (a3 : Value) (ord : List Int) (w : World) (l1 m1 : Nat) (h1 : Ints w l1 u1 s1) (k1 : Ints w m1 v1 t1) (l3 : Nat) (h3 : Ints w l3 a3 ord) :
  Calls Try.prog 127 #[.agg #[.int .i64 b1, u1, v1], a3] w (PVB w (permV b1 s1 t1 ord)) := by
 have hlen1 := ints_len h1
 have hlen2 := ints_len k1
 obtain ⟨a1, cp1, rfl⟩ := h1.form
 obtain ⟨a2, cp2, rfl⟩ := k1.form
 obtain ⟨a4, cp4, rfl⟩ := h3.form
 cases ha : viewB b1 s1 t1
 ·
  have hr : Hid (permV b1 s1 t1 ord = noV) := Lib.hid (by unfold permV; rw [ha]; rfl)
  replace ha := Lib.hid ha
  go_enter Try.func127, Try.ntmps127
  go_wp2_with fail
  refine (validView_c b1 _ _ s1 t1 _ l1 m1 (h1.ext qXt) (k1.ext qXt)).mono ?_
  rintro e w1 ⟨rfl, xw1⟩
  have Lw1 : Ext w w1 := Ext.trans qXt xw1
  have Xw1 : Ext w w1 := Lw1
  have va0 : w1.cell? ⟨w.heap.size, 0, none⟩ = some (.int .i64 b1) := xw1.cell qCl
  have va1 : w1.cell? ⟨w.heap.size, 1, none⟩ = some (.slice a1 s1.length cp1) := xw1.cell qCl
  have va2 : w1.cell? ⟨w.heap.size, 2, none⟩ = some (.slice a2 t1.length cp2) := xw1.cell qCl
  have q0 : w1.cell? ⟨w.heap.size + 1, 0, none⟩ = some (.int .i64 0) := xw1.cell qCl
  have q1 : w1.cell? ⟨w.heap.size + 1, 1, none⟩ = some (.slice none 0 0) := xw1.cell qCl
  have q2 : w1.cell? ⟨w.heap.size + 1, 2, none⟩ = some (.slice none 0 0) := xw1.cell qCl
  have f_q0 : w1.frozen? ⟨w.heap.size + 1, 0, none⟩ = false := xw1.frz (by simp <;> omega) qFz
  have f_q1 : w1.frozen? ⟨w.heap.size + 1, 1, none⟩ = false := xw1.frz (by simp <;> omega) qFz
  have f_q2 : w1.frozen? ⟨w.heap.size + 1, 2, none⟩ = false := xw1.frz (by simp <;> omega) qFz
  have z_va : w.heap.size < w1.heap.size := qB va0
  have z_q : w.heap.size + 1 < w1.heap.size := qB q0
  have s_w1 : w.heap.size ≤ w1.heap.size := Xw1.size
  clear xw1
  rw [ha.out]
  go_wp2_with fail
  refine bodyPost_ret (v := .tuple #[.agg #[.int .i64 0, .slice none 0 0, .slice none 0 0], .bool false]) (by simp only [results, Try.results127]; go_simp) rfl ?_
  exact PVB.no hr.out qXt
 ·
  have ht := (viewB_in ha).2.1
  have j4 := (shapeB_in (viewB_in ha).1).1
  cases hb : orderB ord s1.length
  ·
   have hr : Hid (permV b1 s1 t1 ord = noV) := Lib.hid (by unfold permV; rw [ha, hb]; rfl)
   replace ha := Lib.hid ha
   replace hb := Lib.hid hb
   replace ht := Lib.hid ht
   go_enter Try.func127, Try.ntmps127
   go_wp2_with fail
   refine (validView_c b1 _ _ s1 t1 _ l1 m1 (h1.ext qXt) (k1.ext qXt)).mono ?_
   rintro e w1 ⟨rfl, xw1⟩
   have Lw1 : Ext w w1 := Ext.trans qXt xw1
   have Xw1 : Ext w w1 := Lw1
   have va0 : w1.cell? ⟨w.heap.size, 0, none⟩ = some (.int .i64 b1) := xw1.cell qCl
   have va1 : w1.cell? ⟨w.heap.size, 1, none⟩ = some (.slice a1 s1.length cp1) := xw1.cell qCl
   have va2 : w1.cell? ⟨w.heap.size, 2, none⟩ = some (.slice a2 t1.length cp2) := xw1.cell qCl
   have q0 : w1.cell? ⟨w.heap.size + 1, 0, none⟩ = some (.int .i64 0) := xw1.cell qCl
   have q1 : w1.cell? ⟨w.heap.size + 1, 1, none⟩ = some (.slice none 0 0) := xw1.cell qCl
   have q2 : w1.cell? ⟨w.heap.size + 1, 2, none⟩ = some (.slice none 0 0) := xw1.cell qCl
   have f_q0 : w1.frozen? ⟨w.heap.size + 1, 0, none⟩ = false := xw1.frz (by simp <;> omega) qFz
   have f_q1 : w1.frozen? ⟨w.heap.size + 1, 1, none⟩ = false := xw1.frz (by simp <;> omega) qFz
   have f_q2 : w1.frozen? ⟨w.heap.size + 1, 2, none⟩ = false := xw1.frz (by simp <;> omega) qFz
   have z_va : w.heap.size < w1.heap.size := qB va0
   have z_q : w.heap.size + 1 < w1.heap.size := qB q0
   have s_w1 : w.heap.size ≤ w1.heap.size := Xw1.size
   clear xw1
   rw [ha.out]
   go_wp2_with fail
   refine (validOrder_c ord _ (s1.length : Int) _ l3 (h3.ext (Xw1.trans qXt)) (by omega)).mono ?_
   rintro e w2 ⟨rfl, xw2⟩
   have Lw2 : Ext w1 w2 := Ext.trans qXt xw2
   have Xw2 : Ext w w2 := Xw1.trans Lw2
   replace va0 := Lw2.cell va0
   replace va1 := Lw2.cell va1
   replace va2 := Lw2.cell va2
   replace q0 := Lw2.cell q0
   replace q1 := Lw2.cell q1
   replace q2 := Lw2.cell q2
   replace f_q0 := Lw2.frz z_q f_q0
   replace f_q1 := Lw2.frz z_q f_q1
   replace f_q2 := Lw2.frz z_q f_q2
   have z_va : w.heap.size < w2.heap.size := qB va0
   have z_q : w.heap.size + 1 < w2.heap.size := qB q0
   have s_w2 : w.heap.size ≤ w2.heap.size := Xw2.size
   clear xw2
   rw [hb.out]
   go_wp2_with fail
   refine bodyPost_ret (v := .tuple #[.agg #[.int .i64 0, .slice none 0 0, .slice none 0 0], .bool false]) (by simp only [results, Try.results127]; go_simp) rfl ?_
   exact PVB.no hr.out qXt
  ·
   have hr0 : Hid (permV b1 s1 t1 ord = madeV b1 (takL s1 ord) (takL t1 ord)) := Lib.hid (by unfold permV; rw [ha, hb]; rfl)
   obtain ⟨x, hr⟩ : ∃ x, madeV b1 (takL s1 ord) (takL t1 ord) = x := ⟨_, rfl⟩
   obtain ⟨mb, ms, mt, mk⟩ := x
   replace hr := Lib.hid hr
   have hin : ord.length ≤ 1000 ∧ ∀ x ∈ ord, 0 ≤ x ∧ x < s1.length := by
    unfold orderB at hb
    simp only [Bool.and_eq_true, decide_eq_true_eq, List.all_eq_true, inB] at hb
    exact ⟨by omega, fun x hx => by have := hb.2.1 x hx; omega⟩
   have hper : Hid (∀ W, Ext w W → Calls Try.prog 148 #[.agg #[.int .i64 b1, .slice a1 s1.length cp1, .slice a2 t1.length cp2], .slice a4 ord.length cp4] W (PView W b1 (takL s1 ord) (takL t1 ord))) :=
    Lib.hid (fun W hW => permuted_c b1 _ _ s1 t1 _ ord W l1 m1 (h1.ext hW) (k1.ext hW) l3 (h3.ext hW) hin.2 ht hin.1)
   replace ha := Lib.hid ha
   replace hb := Lib.hid hb
   replace ht := Lib.hid ht
   clear hin
   go_enter Try.func127, Try.ntmps127
   go_wp2_with fail
   refine (validView_c b1 _ _ s1 t1 _ l1 m1 (h1.ext qXt) (k1.ext qXt)).mono ?_
   rintro e w1 ⟨rfl, xw1⟩
   have Lw1 : Ext w w1 := Ext.trans qXt xw1
   have Xw1 : Ext w w1 := Lw1
   have va0 : w1.cell? ⟨w.heap.size, 0, none⟩ = some (.int .i64 b1) := xw1.cell qCl
   have va1 : w1.cell? ⟨w.heap.size, 1, none⟩ = some (.slice a1 s1.length cp1) := xw1.cell qCl
   have va2 : w1.cell? ⟨w.heap.size, 2, none⟩ = some (.slice a2 t1.length cp2) := xw1.cell qCl
   have q0 : w1.cell? ⟨w.heap.size + 1, 0, none⟩ = some (.int .i64 0) := xw1.cell qCl
   have q1 : w1.cell? ⟨w.heap.size + 1, 1, none⟩ = some (.slice none 0 0) := xw1.cell qCl
   have q2 : w1.cell? ⟨w.heap.size + 1, 2, none⟩ = some (.slice none 0 0) := xw1.cell qCl
   have f_q0 : w1.frozen? ⟨w.heap.size + 1, 0, none⟩ = false := xw1.frz (by simp <;> omega) qFz
   have f_q1 : w1.frozen? ⟨w.heap.size + 1, 1, none⟩ = false := xw1.frz (by simp <;> omega) qFz
   have f_q2 : w1.frozen? ⟨w.heap.size + 1, 2, none⟩ = false := xw1.frz (by simp <;> omega) qFz
   have z_va : w.heap.size < w1.heap.size := qB va0
   have z_q : w.heap.size + 1 < w1.heap.size := qB q0
   have s_w1 : w.heap.size ≤ w1.heap.size := Xw1.size
   clear xw1
   rw [ha.out]
   go_wp2_with fail
   refine (validOrder_c ord _ (s1.length : Int) _ l3 (h3.ext (Xw1.trans qXt)) (by omega)).mono ?_
   rintro e w2 ⟨rfl, xw2⟩
   have Lw2 : Ext w1 w2 := Ext.trans qXt xw2
   have Xw2 : Ext w w2 := Xw1.trans Lw2
   replace va0 := Lw2.cell va0
   replace va1 := Lw2.cell va1
   replace va2 := Lw2.cell va2
   replace q0 := Lw2.cell q0
   replace q1 := Lw2.cell q1
   replace q2 := Lw2.cell q2
   replace f_q0 := Lw2.frz z_q f_q0
   replace f_q1 := Lw2.frz z_q f_q1
   replace f_q2 := Lw2.frz z_q f_q2
   have z_va : w.heap.size < w2.heap.size := qB va0
   have z_q : w.heap.size + 1 < w2.heap.size := qB q0
   have s_w2 : w.heap.size ≤ w2.heap.size := Xw2.size
   clear xw2
   rw [hb.out]
   go_wp2_with fail
   refine (hper.out _ (Xw2.trans qXt)).mono ?_
   rintro e w3 ⟨x1, x2, rfl, i1, i2, -, -, -, xw3⟩
   have Lw3 : Ext w2 w3 := Ext.trans qXt xw3
   have Xw3 : Ext w w3 := Xw2.trans Lw3
   replace va0 := Lw3.cell va0
   replace va1 := Lw3.cell va1
   replace va2 := Lw3.cell va2
   replace q0 := Lw3.cell q0
   replace q1 := Lw3.cell q1
   replace q2 := Lw3.cell q2
   replace f_q0 := Lw3.frz z_q f_q0
   replace f_q1 := Lw3.frz z_q f_q1
   replace f_q2 := Lw3.frz z_q f_q2
   have z_va : w.heap.size < w3.heap.size := qB va0
   have z_q : w.heap.size + 1 < w3.heap.size := qB q0
   have s_w3 : w.heap.size ≤ w3.heap.size := Xw3.size
   clear xw3
   have hmd : ∀ (W : World) (l m : Nat), Ints W l x1 (takL s1 ord) → Ints W m x2 (takL t1 ord) → Calls Try.prog 59 #[.agg #[.int .i64 (b1), x1, x2]] W (PVB W (madeV (b1) (takL s1 ord) (takL t1 ord))) := fun W l m i j => made_c _ _ _ _ _ W l m i j
   rw [hr.out] at hmd
   replace hmd := Lib.hid hmd
   go_wp2_with fail
   refine (hmd.out _ _ _ (i1.ext qXt) (i2.ext qXt)).mono ?_
   rintro e w4 ⟨y1, y2, rfl, j1, j2, o1, o2, od, xw4⟩
   have Lw4 : Ext w3 w4 := Ext.trans qXt xw4
   have Xw4 : Ext w w4 := Xw3.trans Lw4
   replace va0 := Lw4.cell va0
   replace va1 := Lw4.cell va1
   replace va2 := Lw4.cell va2
   replace q0 := Lw4.cell q0
   replace q1 := Lw4.cell q1
   replace q2 := Lw4.cell q2
   replace f_q0 := Lw4.frz z_q f_q0
   replace f_q1 := Lw4.frz z_q f_q1
   replace f_q2 := Lw4.frz z_q f_q2
   have z_va : w.heap.size < w4.heap.size := qB va0
   have z_q : w.heap.size + 1 < w4.heap.size := qB q0
   replace i1 := i1.ext Lw4
   replace i2 := i2.ext Lw4
   have s_w4 : w.heap.size ≤ w4.heap.size := Xw4.size
   clear xw4
   have hl1 := ints_len j1
   have hl2 := ints_len j2
   clear j1 j2
   replace o1 := o1.lower (show w.heap.size + 2 ≤ _ by first | (simp; done) | (simp; omega) | omega)
   replace o2 := o2.lower (show w.heap.size + 2 ≤ _ by first | (simp; done) | (simp; omega) | omega)
   obtain ⟨p1, n1, r1, rfl⟩ := o1.form
   obtain ⟨p2, n2, r2, rfl⟩ := o2.form
   clear i1 i2 hmd hper
   go_wp2_with fail
   generalize hW2 : (((w4.setCell ⟨w.heap.size + 1, 0, none⟩ (.int .i64 mb)).setCell ⟨w.heap.size + 1, 1, none⟩ (.slice p1 n1 r1)).setCell ⟨w.heap.size + 1, 2, none⟩ (.slice p2 n2 r2)) = w5 at *
   have Kw5 : Chg (w.heap.size + 1) (w.heap.size + 1 + 1) w4 w5 := by subst hW2; exact qCh
   have Xw5 : Ext w w5 := by subst hW2; exact qXt
   replace va0 := Kw5.cell (by omega) va0
   replace va1 := Kw5.cell (by omega) va1
   replace va2 := Kw5.cell (by omega) va2
   replace q0 : w5.cell? ⟨w.heap.size + 1, 0, none⟩ = some (.int .i64 mb) := by subst hW2; go_simp
   replace f_q0 : w5.frozen? ⟨w.heap.size + 1, 0, none⟩ = false := by subst hW2; go_simp
   replace q1 : w5.cell? ⟨w.heap.size + 1, 1, none⟩ = some (.slice p1 n1 r1) := by subst hW2; go_simp
   replace f_q1 : w5.frozen? ⟨w.heap.size + 1, 1, none⟩ = false := by subst hW2; go_simp
   replace q2 : w5.cell? ⟨w.heap.size + 1, 2, none⟩ = some (.slice p2 n2 r2) := by subst hW2; go_simp
   replace f_q2 : w5.frozen? ⟨w.heap.size + 1, 2, none⟩ = false := by subst hW2; go_simp
   replace o1 := o1.chg Kw5 (by omega)
   replace o2 := o2.chg Kw5 (by omega)
   clear Kw5
   have z_va : w.heap.size < w5.heap.size := qB va0
   have z_q : w.heap.size + 1 < w5.heap.size := qB q0
   have s_w5 : w.heap.size ≤ w5.heap.size := Xw5.size
   clear hW2
   refine bodyPost_ret (v := .tuple #[.agg #[.int .i64 mb, .slice p1 n1 r1, .slice p2 n2 r2], .bool mk]) (by simp only [results, Try.results127]; go_simp) rfl ?_
   exact PVB.any (hr0.out.trans hr.out) (o1.lower (by omega)) (o2.lower (by omega)) od hl1 hl2 Xw5

set_option maxHeartbeats 3200000 in
theorem specAddDim_c (b1 : Int) (u1 v1 : Value) (s1 t1 : List Int) (d : Int) (w : World) (l1 m1 : Nat) (h1 : Ints w l1 u1 s1) (k1 : Ints w m1 v1 t1) :
  Calls Try.prog 131 #[.agg #[.int .i64 b1, u1, v1], .int .i64 d] w (PVB w (addV b1 s1 t1 d)) := by
 have hlen1 := ints_len h1
 have hlen2 := ints_len k1
 obtain ⟨a1, cp1, rfl⟩ := h1.form
 obtain ⟨a2, cp2, rfl⟩ := k1.form
 cases ha : viewB b1 s1 t1
 ·
  have hr : Hid (addV b1 s1 t1 d = noV) := Lib.hid (by unfold addV; rw [ha]; rfl)
  replace ha := Lib.hid ha
  go_enter Try.func131, Try.ntmps131
  go_wp2_with fail
  refine (validView_c b1 _ _ s1 t1 _ l1 m1 (h1.ext qXt) (k1.ext qXt)).mono ?_
  rintro e w1 ⟨rfl, xw1⟩
  have Lw1 : Ext w w1 := Ext.trans qXt xw1
  have Xw1 : Ext w w1 := Lw1
  have va0 : w1.cell? ⟨w.heap.size, 0, none⟩ = some (.int .i64 b1) := xw1.cell qCl
  have va1 : w1.cell? ⟨w.heap.size, 1, none⟩ = some (.slice a1 s1.length cp1) := xw1.cell qCl
  have va2 : w1.cell? ⟨w.heap.size, 2, none⟩ = some (.slice a2 t1.length cp2) := xw1.cell qCl
  have q0 : w1.cell? ⟨w.heap.size + 1, 0, none⟩ = some (.int .i64 0) := xw1.cell qCl
  have q1 : w1.cell? ⟨w.heap.size + 1, 1, none⟩ = some (.slice none 0 0) := xw1.cell qCl
  have q2 : w1.cell? ⟨w.heap.size + 1, 2, none⟩ = some (.slice none 0 0) := xw1.cell qCl
  have f_q0 : w1.frozen? ⟨w.heap.size + 1, 0, none⟩ = false := xw1.frz (by simp <;> omega) qFz
  have f_q1 : w1.frozen? ⟨w.heap.size + 1, 1, none⟩ = false := xw1.frz (by simp <;> omega) qFz
  have f_q2 : w1.frozen? ⟨w.heap.size + 1, 2, none⟩ = false := xw1.frz (by simp <;> omega) qFz
  have z_va : w.heap.size < w1.heap.size := qB va0
  have z_q : w.heap.size + 1 < w1.heap.size := qB q0
  have s_w1 : w.heap.size ≤ w1.heap.size := Xw1.size
  clear xw1
  rw [ha.out]
  go_wp2_with fail
  refine bodyPost_ret (v := .tuple #[.agg #[.int .i64 0, .slice none 0 0, .slice none 0 0], .bool false]) (by simp only [results, Try.results131]; go_simp) rfl ?_
  exact PVB.no hr.out qXt
 ·
  have ht := Lib.hid (viewB_in ha).2.1
  have j4 := (shapeB_in (viewB_in ha).1).1
  cases hb : inB 0 s1.length d
  ·
   have hr : Hid (addV b1 s1 t1 d = noV) := Lib.hid (by unfold addV; rw [ha, hb]; rfl)
   replace ha := Lib.hid ha
   replace hb := Lib.hid hb
   go_enter Try.func131, Try.ntmps131
   go_wp2_with fail
   refine (validView_c b1 _ _ s1 t1 _ l1 m1 (h1.ext qXt) (k1.ext qXt)).mono ?_
   rintro e w1 ⟨rfl, xw1⟩
   have Lw1 : Ext w w1 := Ext.trans qXt xw1
   have Xw1 : Ext w w1 := Lw1
   have va0 : w1.cell? ⟨w.heap.size, 0, none⟩ = some (.int .i64 b1) := xw1.cell qCl
   have va1 : w1.cell? ⟨w.heap.size, 1, none⟩ = some (.slice a1 s1.length cp1) := xw1.cell qCl
   have va2 : w1.cell? ⟨w.heap.size, 2, none⟩ = some (.slice a2 t1.length cp2) := xw1.cell qCl
   have q0 : w1.cell? ⟨w.heap.size + 1, 0, none⟩ = some (.int .i64 0) := xw1.cell qCl
   have q1 : w1.cell? ⟨w.heap.size + 1, 1, none⟩ = some (.slice none 0 0) := xw1.cell qCl
   have q2 : w1.cell? ⟨w.heap.size + 1, 2, none⟩ = some (.slice none 0 0) := xw1.cell qCl
   have f_q0 : w1.frozen? ⟨w.heap.size + 1, 0, none⟩ = false := xw1.frz (by simp <;> omega) qFz
   have f_q1 : w1.frozen? ⟨w.heap.size + 1, 1, none⟩ = false := xw1.frz (by simp <;> omega) qFz
   have f_q2 : w1.frozen? ⟨w.heap.size + 1, 2, none⟩ = false := xw1.frz (by simp <;> omega) qFz
   have z_va : w.heap.size < w1.heap.size := qB va0
   have z_q : w.heap.size + 1 < w1.heap.size := qB q0
   have s_w1 : w.heap.size ≤ w1.heap.size := Xw1.size
   clear xw1
   rw [ha.out]
   go_wp2_with fail
   refine (inRange_c d 0 (s1.length : Int) _).mono ?_
   rintro e w' ⟨rfl, rfl⟩
   rw [hb.out]
   go_wp2_with fail
   refine bodyPost_ret (v := .tuple #[.agg #[.int .i64 0, .slice none 0 0, .slice none 0 0], .bool false]) (by simp only [results, Try.results131]; go_simp) rfl ?_
   exact PVB.no hr.out qXt
  ·
   by_cases h4 : s1.length = 4
   ·
    have hr : Hid (addV b1 s1 t1 d = noV) := Lib.hid (by unfold addV; rw [ha, hb, h4]; rfl)
    have h5 : ((s1.length : Int) == 4) = true := by simp; omega
    replace ha := Lib.hid ha
    replace hb := Lib.hid hb
    clear h4
    go_enter Try.func131, Try.ntmps131
    go_wp2_with fail
    refine (validView_c b1 _ _ s1 t1 _ l1 m1 (h1.ext qXt) (k1.ext qXt)).mono ?_
    rintro e w1 ⟨rfl, xw1⟩
    have Lw1 : Ext w w1 := Ext.trans qXt xw1
    have Xw1 : Ext w w1 := Lw1
    have va0 : w1.cell? ⟨w.heap.size, 0, none⟩ = some (.int .i64 b1) := xw1.cell qCl
    have va1 : w1.cell? ⟨w.heap.size, 1, none⟩ = some (.slice a1 s1.length cp1) := xw1.cell qCl
    have va2 : w1.cell? ⟨w.heap.size, 2, none⟩ = some (.slice a2 t1.length cp2) := xw1.cell qCl
    have q0 : w1.cell? ⟨w.heap.size + 1, 0, none⟩ = some (.int .i64 0) := xw1.cell qCl
    have q1 : w1.cell? ⟨w.heap.size + 1, 1, none⟩ = some (.slice none 0 0) := xw1.cell qCl
    have q2 : w1.cell? ⟨w.heap.size + 1, 2, none⟩ = some (.slice none 0 0) := xw1.cell qCl
    have f_q0 : w1.frozen? ⟨w.heap.size + 1, 0, none⟩ = false := xw1.frz (by simp <;> omega) qFz
    have f_q1 : w1.frozen? ⟨w.heap.size + 1, 1, none⟩ = false := xw1.frz (by simp <;> omega) qFz
    have f_q2 : w1.frozen? ⟨w.heap.size + 1, 2, none⟩ = false := xw1.frz (by simp <;> omega) qFz
    have z_va : w.heap.size < w1.heap.size := qB va0
    have z_q : w.heap.size + 1 < w1.heap.size := qB q0
    have s_w1 : w.heap.size ≤ w1.heap.size := Xw1.size
    clear xw1
    rw [ha.out]
    go_wp2_with fail
    refine (inRange_c d 0 (s1.length : Int) _).mono ?_
    rintro e w' ⟨rfl, rfl⟩
    rw [hb.out]
    go_wp2_with fail
    refine bodyPost_ret (v := .tuple #[.agg #[.int .i64 0, .slice none 0 0, .slice none 0 0], .bool false]) (by simp only [results, Try.results131]; go_simp) rfl ?_
    exact PVB.no hr.out qXt
   ·
    have h5 : ((s1.length : Int) == 4) = false := by simp; omega
    have hd : 0 ≤ d ∧ d ≤ s1.length := by simp [inB] at hb; omega
    obtain ⟨n, rfl⟩ : ∃ n : Nat, d = n := ⟨d.toNat, by omega⟩
    have hr0 : Hid (addV b1 s1 t1 n = madeV b1 (s1.take n ++ [1] ++ s1.drop n) (t1.take n ++ [0] ++ t1.drop n)) := Lib.hid (by unfold addV; rw [ha, hb, h5]; rfl)
    obtain ⟨x, hr⟩ : ∃ x, madeV b1 (s1.take n ++ [1] ++ s1.drop n) (t1.take n ++ [0] ++ t1.drop n) = x := ⟨_, rfl⟩
    obtain ⟨mb, ms, mt, mk⟩ := x
    have hmd : ∀ (W : World) (x1 x2 : Value) (l m : Nat), Ints W l x1 (s1.take n ++ [1] ++ s1.drop n) → Ints W m x2 (t1.take n ++ [0] ++ t1.drop n) → Calls Try.prog 59 #[.agg #[.int .i64 b1, x1, x2]] W (PVB W (madeV b1 (s1.take n ++ [1] ++ s1.drop n) (t1.take n ++ [0] ++ t1.drop n))) := fun W x1 x2 l m i j => made_c _ _ _ _ _ W l m i j
    rw [hr] at hmd
    replace hmd := Lib.hid hmd
    replace hr := Lib.hid hr
    replace ha := Lib.hid ha
    replace hb := Lib.hid hb
    have h4' : s1.length ≤ 3 := by omega
    clear h4
    go_enter Try.func131, Try.ntmps131
    go_wp2_with fail
    refine (validView_c b1 _ _ s1 t1 _ l1 m1 (h1.ext qXt) (k1.ext qXt)).mono ?_
    rintro e w1 ⟨rfl, xw1⟩
    have Lw1 : Ext w w1 := Ext.trans qXt xw1
    have Xw1 : Ext w w1 := Lw1
    have va0 : w1.cell? ⟨w.heap.size, 0, none⟩ = some (.int .i64 b1) := xw1.cell qCl
    have va1 : w1.cell? ⟨w.heap.size, 1, none⟩ = some (.slice a1 s1.length cp1) := xw1.cell qCl
    have va2 : w1.cell? ⟨w.heap.size, 2, none⟩ = some (.slice a2 t1.length cp2) := xw1.cell qCl
    have q0 : w1.cell? ⟨w.heap.size + 1, 0, none⟩ = some (.int .i64 0) := xw1.cell qCl
    have q1 : w1.cell? ⟨w.heap.size + 1, 1, none⟩ = some (.slice none 0 0) := xw1.cell qCl
    have q2 : w1.cell? ⟨w.heap.size + 1, 2, none⟩ = some (.slice none 0 0) := xw1.cell qCl
    have f_q0 : w1.frozen? ⟨w.heap.size + 1, 0, none⟩ = false := xw1.frz (by simp <;> omega) qFz
    have f_q1 : w1.frozen? ⟨w.heap.size + 1, 1, none⟩ = false := xw1.frz (by simp <;> omega) qFz
    have f_q2 : w1.frozen? ⟨w.heap.size + 1, 2, none⟩ = false := xw1.frz (by simp <;> omega) qFz
    have z_va : w.heap.size < w1.heap.size := qB va0
    have z_q : w.heap.size + 1 < w1.heap.size := qB q0
    have s_w1 : w.heap.size ≤ w1.heap.size := Xw1.size
    clear xw1
    rw [ha.out]
    go_wp2_with fail
    refine (inRange_c n 0 (s1.length : Int) _).mono ?_
    rintro e w' ⟨rfl, rfl⟩
    rw [hb.out]
    go_wp2_with fail
    refine wp_region_tail (S := fun w' => w'.cell? ⟨w.heap.size, 0, none⟩ = some (.int .i64 b1) ∧ w'.cell? ⟨w.heap.size, 1, none⟩ = some (.slice a1 s1.length cp1) ∧ w'.cell? ⟨w.heap.size, 2, none⟩ = some (.slice a2 t1.length cp2)) (fun i => decide (14 ≤ i)) qKr ⟨va0, va1, va2⟩ (fun hHeld => ?_)
    refine qTk (v := ?_) 0 rfl (.inl ⟨by rfl, ?_⟩) ?_
    rotate_left
    ·
     (intro w hSw; (try dsimp only at hSw); go_simp; try with_reducible rfl)
    try simp only [Act.put, qa, qb, qc, qD, qE, qF]
    refine qTk (v := ?_) 1 rfl (.inl ⟨by rfl, ?_⟩) ?_
    rotate_left
    ·
     (intro w hSw; (try dsimp only at hSw); go_simp; try with_reducible rfl)
    try simp only [Act.put, qa, qb, qc, qD, qE, qF]
    refine qTk (v := ?_) 2 rfl (.inl ⟨by rfl, ?_⟩) ?_
    rotate_left
    ·
     (intro w hSw; (try dsimp only at hSw); go_simp; try with_reducible rfl)
    try simp only [Act.put, qa, qb, qc, qD, qE, qF]
    refine qTk (v := ?_) 3 rfl (.inl ⟨by rfl, ?_⟩) ?_
    rotate_left
    ·
     (intro w hSw; (try dsimp only at hSw); go_simp; try with_reducible rfl)
    try simp only [Act.put, qa, qb, qc, qD, qE, qF]
    refine qTk (v := ?_) 4 rfl (.inl ⟨by rfl, ?_⟩) ?_
    rotate_left
    ·
     (intro w hSw; (try dsimp only at hSw); go_simp; try with_reducible rfl)
    try simp only [Act.put, qa, qb, qc, qD, qE, qF]
    refine qTk (v := ?_) 6 rfl (.inl ⟨by rfl, ?_⟩) ?_
    rotate_left
    ·
     (intro w hSw; (try dsimp only at hSw); go_simp; try with_reducible rfl)
    try simp only [Act.put, qa, qb, qc, qD, qE, qF]
    refine qTk (v := ?_) 7 rfl (.inl ⟨by rfl, ?_⟩) ?_
    rotate_left
    ·
     (intro w hSw; (try dsimp only at hSw); go_simp; try with_reducible rfl)
    try simp only [Act.put, qa, qb, qc, qD, qE, qF]
    refine qTk (v := ?_) 8 rfl (.inl ⟨by rfl, ?_⟩) ?_
    rotate_left
    ·
     (intro w hSw; (try dsimp only at hSw); go_simp; try with_reducible rfl)
    try simp only [Act.put, qa, qb, qc, qD, qE, qF]
    refine wpTail_one (i := 5) qKr rfl rfl (fun K hK => ?_)
    try simp only [Act.put, qa, qb, qc, qD, qE, qF]
    go_simp
    refine (insert_c s1 _ n 1 _ l1 (h1.ext (Xw1.trans qXt)) (by omega) (by omega)).mono ?_
    rintro e w2 ⟨x1, rfl, i1, -, xw2⟩
    have Lw2 : Ext w1 w2 := Ext.trans qXt xw2
    have Xw2 : Ext w w2 := Xw1.trans Lw2
    replace va0 := Lw2.cell va0
    replace va1 := Lw2.cell va1
    replace va2 := Lw2.cell va2
    replace q0 := Lw2.cell q0
    replace q1 := Lw2.cell q1
    replace q2 := Lw2.cell q2
    replace f_q0 := Lw2.frz z_q f_q0
    replace f_q1 := Lw2.frz z_q f_q1
    replace f_q2 := Lw2.frz z_q f_q2
    have z_va : w.heap.size < w2.heap.size := qB va0
    have z_q : w.heap.size + 1 < w2.heap.size := qB q0
    have s_w2 : w.heap.size ≤ w2.heap.size := Xw2.size
    clear xw2
    obtain ⟨xa1, xn1, xc1, rfl⟩ := i1.any
    refine hK.out _ _ ⟨va0, va1, va2⟩ (fun hHeld => ?_)
    clear hK K
    try simp only [Act.put, qa, qb, qc, qD, qE, qF]
    refine wpTail_one (i := 9) qKr rfl rfl (fun K hK => ?_)
    try simp only [Act.put, qa, qb, qc, qD, qE, qF]
    go_simp
    refine (insert_c t1 _ n 0 _ m1 (k1.ext (Xw1.trans qXt)) (by have := ht.out; omega) (by have := ht.out; omega)).mono ?_
    rintro e w3 ⟨x2, rfl, i2, -, xw3⟩
    have Lw3 : Ext w2 w3 := Ext.trans qXt xw3
    have Xw3 : Ext w w3 := Xw2.trans Lw3
    replace va0 := Lw3.cell va0
    replace va1 := Lw3.cell va1
    replace va2 := Lw3.cell va2
    replace q0 := Lw3.cell q0
    replace q1 := Lw3.cell q1
    replace q2 := Lw3.cell q2
    replace f_q0 := Lw3.frz z_q f_q0
    replace f_q1 := Lw3.frz z_q f_q1
    replace f_q2 := Lw3.frz z_q f_q2
    have z_va : w.heap.size < w3.heap.size := qB va0
    have z_q : w.heap.size + 1 < w3.heap.size := qB q0
    replace i1 := i1.ext Lw3
    have s_w3 : w.heap.size ≤ w3.heap.size := Xw3.size
    clear xw3
    obtain ⟨xa2, xn2, xc2, rfl⟩ := i2.any
    refine hK.out _ _ ⟨va0, va1, va2⟩ (fun hHeld => ?_)
    clear hK K
    try simp only [Act.put, qa, qb, qc, qD, qE, qF]
    refine qTk (v := ?_) 10 rfl (.inl ⟨by rfl, ?_⟩) ?_
    rotate_left
    ·
     (intro w hSw; (try dsimp only at hSw); go_simp; try with_reducible rfl)
    try simp only [Act.put, qa, qb, qc, qD, qE, qF]
    refine wpTail_one (i := 11) qKr rfl rfl (fun K hK => ?_)
    try simp only [Act.put, qa, qb, qc, qD, qE, qF]
    go_simp
    refine (hmd.out _ _ _ _ _ i1 i2).mono ?_
    rintro e w4 ⟨y1, y2, rfl, j1, j2, o1, o2, od, xw4⟩
    have Lw4 : Ext w3 w4 := Ext.trans qXt xw4
    have Xw4 : Ext w w4 := Xw3.trans Lw4
    replace va0 := Lw4.cell va0
    replace va1 := Lw4.cell va1
    replace va2 := Lw4.cell va2
    replace q0 := Lw4.cell q0
    replace q1 := Lw4.cell q1
    replace q2 := Lw4.cell q2
    replace f_q0 := Lw4.frz z_q f_q0
    replace f_q1 := Lw4.frz z_q f_q1
    replace f_q2 := Lw4.frz z_q f_q2
    have z_va : w.heap.size < w4.heap.size := qB va0
    have z_q : w.heap.size + 1 < w4.heap.size := qB q0
    replace i1 := i1.ext Lw4
    replace i2 := i2.ext Lw4
    have s_w4 : w.heap.size ≤ w4.heap.size := Xw4.size
    clear xw4
    have hl1 := ints_len j1
    have hl2 := ints_len j2
    clear j1 j2
    replace o1 := o1.lower (show w.heap.size + 2 ≤ _ by omega)
    replace o2 := o2.lower (show w.heap.size + 2 ≤ _ by omega)
    obtain ⟨p1, n1, r1, rfl⟩ := o1.form
    obtain ⟨p2, n2, r2, rfl⟩ := o2.form
    clear i1 i2
    refine hK.out _ _ ⟨va0, va1, va2⟩ (fun hHeld => ?_)
    clear hK K
    try simp only [Act.put, qa, qb, qc, qD, qE, qF]
    refine qTk (v := ?_) 12 rfl (.inl ⟨by rfl, ?_⟩) ?_
    rotate_left
    ·
     (intro w hSw; (try dsimp only at hSw); go_simp; try with_reducible rfl)
    try simp only [Act.put, qa, qb, qc, qD, qE, qF]
    refine qTk (v := ?_) 13 rfl (.inl ⟨by rfl, ?_⟩) ?_
    rotate_left
    ·
     (intro w hSw; (try dsimp only at hSw); go_simp; try with_reducible rfl)
    try simp only [Act.put, qa, qb, qc, qD, qE, qF]
    refine wpTail_last (i := 14) qKr rfl rfl (fun K hK => ?_)
    try simp only [Act.put, qa, qb, qc, qD, qE, qF]
    go_simp
    refine hK.out _ _ ?_
    clear hK K
    try simp only [Act.put, qa, qb, qc, qD, qE, qF]
    refine wpTail_last (i := 15) qKr rfl rfl (fun K hK => ?_)
    try simp only [Act.put, qa, qb, qc, qD, qE, qF]
    go_simp
    refine hK.out _ _ ?_
    clear hK K
    try simp only [Act.put, qa, qb, qc, qD, qE, qF]
    refine wpTail_done qKr ?_ _
    clear hHeld
    generalize hW3 : (((w4.setCell ⟨w.heap.size + 1, 0, none⟩ (.int .i64 mb)).setCell ⟨w.heap.size + 1, 1, none⟩ (.slice p1 n1 r1)).setCell ⟨w.heap.size + 1, 2, none⟩ (.slice p2 n2 r2)) = w5 at *
    have Kw5 : Chg (w.heap.size + 1) (w.heap.size + 1 + 1) w4 w5 := by subst hW3; exact qCh
    have Xw5 : Ext w w5 := by subst hW3; exact qXt
    replace va0 := Kw5.cell (by omega) va0
    replace va1 := Kw5.cell (by omega) va1
    replace va2 := Kw5.cell (by omega) va2
    replace q0 : w5.cell? ⟨w.heap.size + 1, 0, none⟩ = some (.int .i64 mb) := by subst hW3; go_simp
    replace f_q0 : w5.frozen? ⟨w.heap.size + 1, 0, none⟩ = false := by subst hW3; go_simp
    replace q1 : w5.cell? ⟨w.heap.size + 1, 1, none⟩ = some (.slice p1 n1 r1) := by subst hW3; go_simp
    replace f_q1 : w5.frozen? ⟨w.heap.size + 1, 1, none⟩ = false := by subst hW3; go_simp
    replace q2 : w5.cell? ⟨w.heap.size + 1, 2, none⟩ = some (.slice p2 n2 r2) := by subst hW3; go_simp
    replace f_q2 : w5.frozen? ⟨w.heap.size + 1, 2, none⟩ = false := by subst hW3; go_simp
    replace o1 := o1.chg Kw5 (by omega)
    replace o2 := o2.chg Kw5 (by omega)
    clear Kw5
    have z_va : w.heap.size < w5.heap.size := qB va0
    have z_q : w.heap.size + 1 < w5.heap.size := qB q0
    have s_w5 : w.heap.size ≤ w5.heap.size := Xw5.size
    clear hW3
    go_wp2_with fail
    refine bodyPost_ret (v := .tuple #[.agg #[.int .i64 mb, .slice p1 n1 r1, .slice p2 n2 r2], .bool mk]) (by simp only [results, Try.results131]; go_simp) rfl ?_
    exact PVB.any (hr0.out.trans hr.out) (o1.lower (by omega)) (o2.lower (by omega)) od hl1 hl2 Xw5


end Go.Proofs.Ytpgkhjmboiepcaa

/- Words for walks: an owned row with one element more. No condition. -/
namespace Go.Proofs.Ytpgkhjmboiepcaa
open Go.RowKit
set_option linter.unusedVariables false
set_option maxRecDepth 100000

theorem OwnI.row2 {w : World} {base : Nat} {v : Value} {xs : List Int} (h : OwnI w base v xs) (hn : xs ≠ []) : ∃ g n c, v = .slice (some ⟨g, 0, none⟩) n c ∧ Hid (n = xs.length) ∧ base ≤ g ∧ g < w.heap.size := by
  obtain ⟨g, c, rfl, h1, h2⟩ := h.row hn
  exact ⟨g, _, c, rfl, Lib.hid rfl, h1, h2⟩
theorem chg_grownD {w w' : World} {o : Obj} {g : Nat} (hg : (w.drew.alloc o).grownBy w' (some g)) : Chg g (g + 1) w w' :=
  (Chg.of_ext (Ext.drew (Ext.refl w))).trans (chg_grown hg)
theorem own_or {g n c g0 n0 c0 z : Nat} (h : (Value.slice (some ⟨g, 0, none⟩) n c).ownBlock = (Value.slice (some ⟨g0, 0, none⟩) n0 c0).ownBlock ∨ (Value.slice (some ⟨g, 0, none⟩) n c).ownBlock = some z) : g = g0 ∨ g = z := by
  rcases h with h | h
  · left; have : some g = some g0 := h; cases this; rfl
  · right; have : some g = some z := h; cases this; rfl

end Go.Proofs.Ytpgkhjmboiepcaa
