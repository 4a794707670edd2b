/- Texts of these proofs put together: SvK, SvM, Open, OpenB, DrA, DrB, KitC, KitD, KitE, TfA, GsC, Rec, RlA, LvA, RlT, RlL, DelA, PoA, SmA, LvB, LvF, LvE, LvH, LvG, PureM, LvI, LvJ, InsA, TnP. No condition. -/
import Derived.Test.YtpgkhjmboiepcaaM3
import Derived.Test.YtpgkhjmboiepcaaRows
import Derived.Test.YtpgkhjmboiepcaaM1
import Derived.WalkKit
import Derived.ProofKit
import Derived.OpenShut
import Derived.ShutString
import Derived.ChangeOld
import Derived.Below
import Derived.Lib.SmallJoins
import Derived.Test.YtpgkhjmboiepcaaM2
import Derived.Shelf.Spec.SlicesInsertGrow
set_option linter.unusedVariables false
set_option linter.unusedSimpArgs false
/- Walks: a drawn view. -/
namespace Go.Proofs.Ytpgkhjmboiepcaa
open Go.RowKit
set_option linter.unusedVariables false
set_option maxRecDepth 100000


/-- a drawn view comes back -/
def GView (rb k : Nat) (w : World) (e : Ending) (w' : World) : Prop := ∃ (b : Int) (s t : List Int) (p1 p2 : Option Addr) (n1 r1 n2 r2 : Nat), e = .returned (.agg #[.int .i64 b, .slice p1 n1 r1, .slice p2 n2 r2]) ∧
 OwnZ w' w.heap.size (.slice p1 n1 r1) s ∧ OwnZ w' w.heap.size (.slice p2 n2 r2) t ∧ (s ≠ [] → t ≠ [] → (Value.slice p1 n1 r1).ownBlock ≠ (Value.slice p2 n2 r2).ownBlock) ∧ t.length = s.length ∧ (s.length ≤ 4 ∧ (s = [] → n2 = 0 ∧ r2 = 0)) ∧ Rd w' rb k ∧ Chg rb (rb + 1) w w'
theorem VAt.open {B g : Nat} {w : World} {b : Int} {u v : Value} {s t : List Int} (h : VAt B g w b u v s t) : ∃ a1 c1 a2 c2, u = .slice a1 s.length c1 ∧ v = .slice a2 t.length c2 := by
 obtain ⟨a1, c1, h1⟩ := (h.o1.ints (by have := h.le; omega)).form
 obtain ⟨a2, c2, h2⟩ := (h.o2.ints (by have := h.le; have := h.fit; omega)).form
 exact ⟨a1, c1, a2, c2, h1, h2⟩

set_option maxHeartbeats 6400000 in
theorem goodView_c (rb k : Nat) (w : World) (hr : Rd w rb k) (hk : k ≤ 800000) :
  Calls Try.prog 105 #[.pointer (some ⟨rb, 0, none⟩)] w (GView rb (k + 200) w) := by
 have hlt := hr.lt
 have X := Rch.refl rb w
 go_enter Try.func105, Try.ntmps105
 go_wp2_with fail
 have Q : VAt (w.heap.size + 1) w.heap.size (w.alloc (.cells #[.int .i64 0, .slice none 0 0, .slice none 0 0] 25)) 0 (.slice none 0 0) (.slice none 0 0) [] [] :=
  VAt.new 0 (.inl ⟨rfl, none, 0, rfl, by simp, fun _ => rfl⟩) (.inl ⟨rfl, none, 0, rfl, by simp, fun _ => rfl⟩) (fun h => absurd rfl h) rfl (by simp)
 refine (goodShape_c rb _ _ (by repeat (first | (with_reducible exact hr) | (with_reducible apply Rd.drewN) | (with_reducible apply Rd.drew) | (with_reducible apply Rd.alloc) | ((with_reducible apply Rd.set2); (· first | assumption | (simp; omega) | (simp; done) | omega)))) (by omega)).mono ?_
 rintro e w1 ⟨v0, xs, rfl, o0, hl0, hr1, C1⟩
 have X1 : Rch rb w w1 := Rch.step (by (try change Rch rb w _); repeat (first | (with_reducible exact X) | (with_reducible exact Rch.refl _ _) | (with_reducible apply Rch.drewN) | (with_reducible apply Rch.drew) | (with_reducible apply Rch.alloc) | (with_reducible refine Rch.set ?_ (by first | assumption | (simp <;> omega) | omega) _))) C1
 have hs1 := X1.size
 replace Q := Q.rch C1 (by omega) (by omega)
 have i0 := o0.ints (by omega)
 clear o0 hr X
 go_wp2_with fail
 refine (newView2_c xs _ _ _ i0).mono ?_
 intro e w2 hE
 obtain ⟨a1, a2, n1, c1, n2, c2, rfl, o1, o2, od, hN, x2⟩ := hE.open
 have hN2 : Hid (newS xs = [] → n2 = 0 ∧ c2 = 0) := Lib.hid (fun h => hN (List.eq_nil_of_length_eq_zero (by rw [newT_len, h]; rfl)))
 clear hN hE
 have hr2 := hr1.ext x2
 have X2 : Rch rb w w2 := X1.ext x2
 have hs2 := x2.size
 replace Q := Q.ext x2
 have hq1 := Q.lt
 have V : VAt (w.heap.size + 1) w2.heap.size (w2.alloc (.cells #[.int .i64 0, .slice a1 n1 c1, .slice a2 n2 c2] 25)) 0 (.slice a1 n1 c1) (.slice a2 n2 c2) (newS xs) (newT xs) :=
  VAt.new 0 (o1.lower (by have := C1.size; simp at this; omega)) (o2.lower (by have := C1.size; simp at this; omega)) od (newT_len xs) (newS_le hl0)
 replace Q := Q.ext (show Ext w2 (w2.alloc (.cells #[.int .i64 0, .slice a1 n1 c1, .slice a2 n2 c2] 25)) from qXt)
 have hr3 : Rd (w2.alloc (.cells #[.int .i64 0, .slice a1 n1 c1, .slice a2 n2 c2] 25)) rb (k + 8) := hr2.alloc _
 have X3 : Rch rb w (w2.alloc (.cells #[.int .i64 0, .slice a1 n1 c1, .slice a2 n2 c2] 25)) := X2.alloc _
 clear o1 o2 od i0 x2 X1 X2 hr1 hr2 C1
 go_wp2_with fail
 generalize w2.alloc (.cells #[.int .i64 0, .slice a1 n1 c1, .slice a2 n2 c2] 25) = w3 at *
 generalize newS xs = s at *
 generalize newT xs = t at *
 have hgv : w.heap.size < w2.heap.size := by omega
 generalize w2.heap.size = gv at *
 refine (pick1_c 10 rb _ _ hr3 (by omega) (by omega)).mono ?_
 rintro e w4 ⟨x4, rfl, hx4, hr4, C4⟩
 have X4 := Rch.step X3 C4
 replace V := V.rch C4 (by omega) (by omega)
 replace Q := Q.rch C4 (by omega) (by omega)
 clear C4 X3 hr3
 go_wp2_with fail
 refine (oneLit_c _ _ _ rb _ _ hr4 (by omega) (by rfl) (by rfl) (by constructor <;> simp) (by first | rfl | simp)).mono ?_
 rintro e w5 ⟨x5, rfl, -, hr5, C5⟩
 have X5 := Rch.step (Rch.alloc X4 _) C5
 replace V := (V.ext ((Ext.refl w4).alloc _)).rch C5 (by omega) (by omega)
 replace Q := (Q.ext ((Ext.refl w4).alloc _)).rch C5 (by omega) (by omega)
 clear C5 X4 hr4 hx4
 have cv0 := V.c0
 have cv1 := V.c1
 have cv2 := V.c2
 have f_cv0 := V.f0
 have f_cv1 := V.f1
 have f_cv2 := V.f2
 have z_cv := V.lt
 go_wp2_with fail
 clear cv0 cv1 cv2 f_cv0 f_cv1 f_cv2
 have zq := Q.lt
 replace Q := Q.chgB ((Chg.refl gv (gv + 1) w5).setCell (p := ⟨gv, 0, none⟩) (Nat.le_refl _) (Nat.lt_succ_self _) (.int .i64 x5)) (by omega) (fun h => absurd rfl h) (fun h => absurd rfl h)
 replace V := V.setBase x5
 generalize hW1 : w5.setCell ⟨gv, 0, none⟩ (.int .i64 x5) = w6 at *
 have hr6 : Rd w6 rb (k + 8 + 1 + 1) := by subst hW1; exact Rd.set2 (show rb < gv by omega) hr5
 have X6 : Rch rb w w6 := by subst hW1; exact X5.set (show w.heap.size ≤ gv by omega) _
 clear hW1
 clear X5 hr5
 refine (pick1_c 4 rb _ _ hr6 (by omega) (by omega)).mono ?_
 rintro e w7 ⟨x7, rfl, hx7, hr7, C7⟩
 have X7 := Rch.step X6 C7
 replace V := V.rch C7 (by omega) (by omega)
 replace Q := Q.rch C7 (by omega) (by omega)
 clear C7 X6 hr6
 obtain ⟨m0, rfl⟩ : ∃ m : Nat, x7 = m := ⟨x7.toNat, by omega⟩
 go_wp2_with fail
 go_loopw [4] (fun i wr => ∃ (m q : Nat) (b : Int) (s t : List Int) (a1 a2 : Option Addr) (n1 c1 n2 c2 : Nat), i = .int .i64 m ∧ (s = [] → n2 = 0 ∧ c2 = 0) ∧ VAt (w.heap.size + 1) gv wr b (.slice a1 n1 c1) (.slice a2 n2 c2) s t ∧ VAt (w.heap.size + 1) w.heap.size wr 0 (.slice none 0 0) (.slice none 0 0) [] [] ∧ Rd wr rb q ∧ q + 40 * m ≤ k + 180 ∧ Rch rb w wr) (fun i _ => (intOf i).toNat)
 case atStart => exact ⟨m0, _, _, _, _, _, _, _, _, _, _, rfl, hN2.out, V, Q, hr7, by omega, X7⟩
 case round =>
  clear V Q hr7 X7
  obtain ⟨m, q, b, s, t, a1, a2, n1, c1, n2, c2, rfl, hN, V, Q, hr, hqm, X⟩ := hrel
  replace hN := Lib.hid hN
  obtain ⟨a1', c1', a2', c2', e1, e2⟩ := V.open
  cases e1; cases e2
  have hl4 := V.le
  have hfit := Lib.hid V.fit
  have hsX := X.size
  by_cases hgo : 0 < m ∧ s ≠ []
  ·
   obtain ⟨hm0, hne⟩ := hgo
   obtain ⟨m', rfl⟩ : ∃ m' : Nat, m = m' + 1 := ⟨m - 1, by omega⟩
   have hmI : (0 : Int) < ((m' + 1 : Nat) : Int) := by omega
   have hsl : 0 < s.length := by cases s; exact absurd rfl hne; simp
   have hsI : (0 : Int) < (s.length : Int) := by omega
   have hmI2 : ((m' + 1 : Nat) : Int) - 1 = (m' : Int) := by omega
   replace hne := Lib.hid hne
   clear hm0
   have cv0 := V.c0
   have cv1 := V.c1
   have cv2 := V.c2
   have f_cv0 := V.f0
   have f_cv1 := V.f1
   have f_cv2 := V.f2
   have z_cv := V.lt
   go_wp2_with fail
   refine (pick1_c (s.length : Int) rb _ _ hr (by omega) (by omega)).mono ?_
   rintro e w8 ⟨d, rfl, hd, hr8, C8⟩
   clear cv0 cv1 cv2 f_cv0 f_cv1 f_cv2
   replace X := Rch.step X C8
   replace V := V.rch C8 (by omega) (by omega)
   replace Q := Q.rch C8 (by omega) (by omega)
   clear C8 hr
   obtain ⟨d, rfl⟩ : ∃ n : Nat, d = n := ⟨d.toNat, by omega⟩
   have hds : d < s.length := by omega
   have hdt : d < t.length := by have := hfit.out; omega
   have cv0 := V.c0
   have cv1 := V.c1
   have cv2 := V.c2
   have f_cv0 := V.f0
   have f_cv1 := V.f1
   have f_cv2 := V.f2
   have z_cv := V.lt
   go_wp2_with fail
   have hb1 := V.o1.bound
   have hb2 := V.o2.bound
   have hgvn := V.lt
   have VN := VAt.new (B := w.heap.size + 1) b V.o1 V.o2 V.sep hfit.out hl4
   generalize hW2 : w8.alloc (.cells #[.int .i64 b, .slice a1 s.length c1, .slice a2 t.length c2] 25) = w9 at *
   have E8 : Ext w8 w9 := by subst hW2; exact qXt
   clear cv0 cv1 cv2 f_cv0 f_cv1 f_cv2
   replace V := V.ext E8
   replace Q := Q.ext E8
   replace X := X.ext E8
   replace hr8 := hr8.ext E8
   clear E8
   clear hW2
   generalize w8.heap.size = gn at *
   have hgn : rb < gn := by omega
   refine (pick1_c 6 rb _ _ hr8 (by omega) (by omega)).mono ?_
   rintro e w10 ⟨x, rfl, hx, hr10, C10⟩
   replace X := Rch.step X C10
   replace V := V.rch C10 (by omega) (by omega)
   replace Q := Q.rch C10 (by omega) (by omega)
   replace VN := VN.rch C10 (by omega) (by omega)
   clear C10 hr8
   go_upto_block 2 with fail
   go_cut [7] (fun s7 wx => NextAt rb q gn gv w b (.slice a1 s.length c1) (.slice a2 t.length c2) s t s7 wx)
   case first =>
    have hx6 : x = 0 ∨ x = 1 ∨ x = 2 ∨ x = 3 ∨ x = 4 ∨ x = 5 := by omega
    clear hx
    replace hb1 := Lib.hid hb1
    replace hb2 := Lib.hid hb2
    rcases hx6 with rfl | rfl | rfl | rfl | rfl | rfl
    ·
     have cv0 := V.c0
     have cv1 := V.c1
     have cv2 := V.c2
     go_wp2_with fail
     refine wp_region_held_drew (S := fun w' => w'.cell? ⟨gv, 0, none⟩ = some (.int .i64 b) ∧ w'.cell? ⟨gv, 1, none⟩ = some (.slice a1 s.length c1) ∧ w'.cell? ⟨gv, 2, none⟩ = some (.slice a2 t.length c2)) qKr ⟨cv0, cv1, cv2⟩ (fun hHeld => ?_)
     replace V := V.ext (show Ext w10 w10.drew from qXt)
     replace Q := Q.ext (show Ext w10 w10.drew from qXt)
     replace VN := VN.ext (show Ext w10 w10.drew from qXt)
     replace X := X.ext (show Ext w10 w10.drew from qXt)
     have hne1 : gv ≠ gn := by omega
     have hne2 : gn ≠ gv := by omega
     refine qHk (v := ?_) 0 rfl (.inl ⟨by rfl, ?_⟩) ?_
     rotate_left
     ·
      (intro w hSw; (try dsimp only at hSw); go_simp; try with_reducible rfl)
     try simp only [Act.put, qa, qb, qc, qD, qE, qF]
     refine qHk (v := ?_) 1 rfl (.inl ⟨by rfl, ?_⟩) ?_
     rotate_left
     ·
      (intro w hSw; (try dsimp only at hSw); go_simp; try with_reducible rfl)
     try simp only [Act.put, qa, qb, qc, qD, qE, qF]
     refine qHk (v := ?_) 2 rfl (.inl ⟨by rfl, ?_⟩) ?_
     rotate_left
     ·
      (intro w hSw; (try dsimp only at hSw); go_simp; try with_reducible rfl)
     try simp only [Act.put, qa, qb, qc, qD, qE, qF]
     refine qHr 3 rfl (fun K hK => ?_)
     try simp only [Act.put, qa, qb, qc, qD, qE, qF]
     go_simp
     refine (someSlice_c rb _ _ (hr10.drew) (by omega)).mono ?_
     rintro e w11 ⟨F, T, B, fh, th, rfl, hr11, C11⟩
     replace X := Rch.step X C11
     replace V := V.rch C11 (by omega) (by omega)
     replace Q := Q.rch C11 (by omega) (by omega)
     replace VN := VN.rch C11 (by omega) (by omega)
     clear C11
     have cv0 := V.c0
     have cv1 := V.c1
     have cv2 := V.c2
     refine hK.out _ _ ⟨cv0, cv1, cv2⟩ (fun hHeld => ?_)
     clear hK K
     try simp only [Act.put, qa, qb, qc, qD, qE, qF]
     refine qHr 4 rfl (fun K hK => ?_)
     try simp only [Act.put, qa, qb, qc, qD, qE, qF]
     go_simp
     have zn := VN.lt
     refine ((specSliceDim_c b _ _ s t d F T B fh th _ _ _ (V.o1.ints (by omega)) (V.o2.ints (by have := hfit.out; omega))).mono (fun _ _ h => PFit.of h (sliceV_fit ..) (sliceV_live hne.out))).mono ?_
     rintro e w12 ⟨b2, s2, t2, ok, p1, p2, m1, r1, m2, r2, rfl, o1, o2, od, hf2, hl2, x12⟩
     replace V := V.ext x12
     replace Q := Q.ext x12
     replace VN := VN.ext x12
     replace X := X.ext x12
     have hrN := hr11.ext x12
     have cv0 := V.c0
     have cv1 := V.c1
     have cv2 := V.c2
     refine hK.out _ _ ⟨cv0, cv1, cv2⟩ (fun hHeld => ?_)
     clear hK K
     try simp only [Act.put, qa, qb, qc, qD, qE, qF]
     refine qHk (v := ?_) 5 rfl (.inl ⟨by rfl, ?_⟩) ?_
     rotate_left
     ·
      (intro w hSw; (try dsimp only at hSw); go_simp; try with_reducible rfl)
     try simp only [Act.put, qa, qb, qc, qD, qE, qF]
     refine qHk (v := ?_) 6 rfl (.inl ⟨by rfl, ?_⟩) ?_
     rotate_left
     ·
      (intro w hSw; (try dsimp only at hSw); go_simp; try with_reducible rfl)
     try simp only [Act.put, qa, qb, qc, qD, qE, qF]
     refine qHk (v := ?_) 7 rfl (.inl ⟨by rfl, ?_⟩) ?_
     rotate_left
     ·
      (intro w hSw; (try dsimp only at hSw); go_simp; try with_reducible rfl)
     try simp only [Act.put, qa, qb, qc, qD, qE, qF]
     have vn0 := VN.c0
     have vn1 := VN.c1
     have vn2 := VN.c2
     have f_vn0 := VN.f0
     have f_vn1 := VN.f1
     have f_vn2 := VN.f2
     have z_vn := VN.lt
     refine qHr 8 rfl (fun K hK => ?_)
     try simp only [Act.put, qa, qb, qc, qD, qE, qF]
     go_simp
     refine hK.out _ _ ⟨(by go_simp), (by go_simp), (by go_simp)⟩ (fun hHeld => ?_)
     clear hK K
     try simp only [Act.put, qa, qb, qc, qD, qE, qF]
     refine qHk (v := ?_) 9 rfl (.inl ⟨by rfl, ?_⟩) ?_
     rotate_left
     ·
      (intro w hSw; (try dsimp only at hSw); go_simp; try with_reducible rfl)
     try simp only [Act.put, qa, qb, qc, qD, qE, qF]
     clear hne1 hne2
     refine wpAnyH_done qKr ?_ _
     clear hHeld
     clear vn0 vn1 vn2 f_vn0 f_vn1 f_vn2
     repeat go_step
     go_meet
     case rel => exact NextAt.put _ VN V Q (hrN.mono (by omega)) X hlt hgv hgvn hb1.out hb2.out o1 o2 od hf2 hl2 (by first | omega | (simp; omega))
    ·
     have zn := VN.lt
     have cv0 := V.c0
     have cv1 := V.c1
     have cv2 := V.c2
     go_wp2_with fail
     refine ((specFlipDim_c b _ _ s t d _ _ _ (V.o1.ints (by omega)) (V.o2.ints (by have := hfit.out; omega))).mono (fun _ _ h => PFit.of h (sliceV_fit ..) (sliceV_live hne.out))).mono ?_
     rintro e w12 ⟨b2, s2, t2, ok, p1, p2, m1, r1, m2, r2, rfl, o1, o2, od, hf2, hl2, x12⟩
     replace V := V.ext x12
     replace Q := Q.ext x12
     replace VN := VN.ext x12
     replace X := X.ext x12
     have hrN := hr10.ext x12
     clear cv0 cv1 cv2
     have vn0 := VN.c0
     have vn1 := VN.c1
     have vn2 := VN.c2
     have f_vn0 := VN.f0
     have f_vn1 := VN.f1
     have f_vn2 := VN.f2
     have z_vn := VN.lt
     go_wp2_with fail
     clear vn0 vn1 vn2 f_vn0 f_vn1 f_vn2
     go_meet
     case rel => exact NextAt.put _ VN V Q (hrN.mono (by omega)) X hlt hgv hgvn hb1.out hb2.out o1 o2 od hf2 hl2 (by first | omega | (simp; omega))
    ·
     have cv0 := V.c0
     have cv1 := V.c1
     have cv2 := V.c2
     go_wp2_with fail
     refine wp_region_held_drew (S := fun w' => w'.cell? ⟨gv, 0, none⟩ = some (.int .i64 b) ∧ w'.cell? ⟨gv, 1, none⟩ = some (.slice a1 s.length c1) ∧ w'.cell? ⟨gv, 2, none⟩ = some (.slice a2 t.length c2)) qKr ⟨cv0, cv1, cv2⟩ (fun hHeld => ?_)
     replace V := V.ext (show Ext w10 w10.drew from qXt)
     replace Q := Q.ext (show Ext w10 w10.drew from qXt)
     replace VN := VN.ext (show Ext w10 w10.drew from qXt)
     replace X := X.ext (show Ext w10 w10.drew from qXt)
     have hne1 : gv ≠ gn := by omega
     have hne2 : gn ≠ gv := by omega
     refine qHk (v := ?_) 0 rfl (.inl ⟨by rfl, ?_⟩) ?_
     rotate_left
     ·
      (intro w hSw; (try dsimp only at hSw); go_simp; try with_reducible rfl)
     try simp only [Act.put, qa, qb, qc, qD, qE, qF]
     refine qHk (v := ?_) 1 rfl (.inl ⟨by rfl, ?_⟩) ?_
     rotate_left
     ·
      (intro w hSw; (try dsimp only at hSw); go_simp; try with_reducible rfl)
     try simp only [Act.put, qa, qb, qc, qD, qE, qF]
     refine qHk (v := ?_) 2 rfl (.inl ⟨by rfl, ?_⟩) ?_
     rotate_left
     ·
      (intro w hSw; (try dsimp only at hSw); go_simp; try with_reducible rfl)
     try simp only [Act.put, qa, qb, qc, qD, qE, qF]
     refine qHk (v := ?_) 3 rfl (.inl ⟨by rfl, ?_⟩) ?_
     rotate_left
     ·
      (intro w hSw; (try dsimp only at hSw); go_simp; try with_reducible rfl)
     try simp only [Act.put, qa, qb, qc, qD, qE, qF]
     refine qHr 4 rfl (fun K hK => ?_)
     try simp only [Act.put, qa, qb, qc, qD, qE, qF]
     go_simp
     refine (supTo_c s.length _ (by omega)).mono ?_
     rintro e w11 ⟨v11, rfl, i11, -, x11⟩
     replace V := V.ext x11
     replace Q := Q.ext x11
     replace VN := VN.ext x11
     replace X := X.ext x11
     have hr11 := (hr10.drew).ext x11
     obtain ⟨ap, np, cp, rfl⟩ := i11.any
     have cv0 := V.c0
     have cv1 := V.c1
     have cv2 := V.c2
     refine hK.out _ _ ⟨cv0, cv1, cv2⟩ (fun hHeld => ?_)
     clear hK K
     try simp only [Act.put, qa, qb, qc, qD, qE, qF]
     refine qHr 5 rfl (fun K hK => ?_)
     try simp only [Act.put, qa, qb, qc, qD, qE, qF]
     go_simp
     refine (reversed_c _ _ _ _ i11).mono ?_
     rintro e w13 ⟨v13, rfl, i13, -, x13⟩
     replace V := V.ext x13
     replace Q := Q.ext x13
     replace VN := VN.ext x13
     replace X := X.ext x13
     have hr13 := hr11.ext x13
     obtain ⟨aq, nq, cq, rfl⟩ := i13.any
     have cv0 := V.c0
     have cv1 := V.c1
     have cv2 := V.c2
     refine hK.out _ _ ⟨cv0, cv1, cv2⟩ (fun hHeld => ?_)
     clear hK K
     try simp only [Act.put, qa, qb, qc, qD, qE, qF]
     refine qHr 6 rfl (fun K hK => ?_)
     try simp only [Act.put, qa, qb, qc, qD, qE, qF]
     go_simp
     have zn := VN.lt
     refine ((specPermuteDims_c b _ _ s t _ _ _ _ _ (V.o1.ints (by omega)) (V.o2.ints (by have := hfit.out; omega)) _ i13).mono (fun _ _ h => PFit.of h (permV_fit ..) (permV_live hne.out))).mono ?_
     rintro e w12 ⟨b2, s2, t2, ok, p1, p2, m1, r1, m2, r2, rfl, o1, o2, od, hf2, hl2, x12⟩
     replace V := V.ext x12
     replace Q := Q.ext x12
     replace VN := VN.ext x12
     replace X := X.ext x12
     have hrN := hr13.ext x12
     have cv0 := V.c0
     have cv1 := V.c1
     have cv2 := V.c2
     refine hK.out _ _ ⟨cv0, cv1, cv2⟩ (fun hHeld => ?_)
     clear hK K
     try simp only [Act.put, qa, qb, qc, qD, qE, qF]
     refine qHk (v := ?_) 7 rfl (.inl ⟨by rfl, ?_⟩) ?_
     rotate_left
     ·
      (intro w hSw; (try dsimp only at hSw); go_simp; try with_reducible rfl)
     try simp only [Act.put, qa, qb, qc, qD, qE, qF]
     refine qHk (v := ?_) 8 rfl (.inl ⟨by rfl, ?_⟩) ?_
     rotate_left
     ·
      (intro w hSw; (try dsimp only at hSw); go_simp; try with_reducible rfl)
     try simp only [Act.put, qa, qb, qc, qD, qE, qF]
     refine qHk (v := ?_) 9 rfl (.inl ⟨by rfl, ?_⟩) ?_
     rotate_left
     ·
      (intro w hSw; (try dsimp only at hSw); go_simp; try with_reducible rfl)
     try simp only [Act.put, qa, qb, qc, qD, qE, qF]
     have vn0 := VN.c0
     have vn1 := VN.c1
     have vn2 := VN.c2
     have f_vn0 := VN.f0
     have f_vn1 := VN.f1
     have f_vn2 := VN.f2
     have z_vn := VN.lt
     refine qHr 10 rfl (fun K hK => ?_)
     try simp only [Act.put, qa, qb, qc, qD, qE, qF]
     go_simp
     refine hK.out _ _ ⟨(by go_simp), (by go_simp), (by go_simp)⟩ (fun hHeld => ?_)
     clear hK K
     try simp only [Act.put, qa, qb, qc, qD, qE, qF]
     refine qHk (v := ?_) 11 rfl (.inl ⟨by rfl, ?_⟩) ?_
     rotate_left
     ·
      (intro w hSw; (try dsimp only at hSw); go_simp; try with_reducible rfl)
     try simp only [Act.put, qa, qb, qc, qD, qE, qF]
     clear hne1 hne2
     refine wpAnyH_done qKr ?_ _
     clear hHeld
     clear vn0 vn1 vn2 f_vn0 f_vn1 f_vn2
     repeat go_step
     go_meet
     case rel => exact NextAt.put _ VN V Q (hrN.mono (by omega)) X hlt hgv hgvn hb1.out hb2.out o1 o2 od hf2 hl2 (by first | omega | (simp; omega))
    ·
     have cv0 := V.c0
     have cv1 := V.c1
     have cv2 := V.c2
     go_wp2_with fail
     refine wp_region_held_drew (S := fun w' => w'.cell? ⟨gv, 0, none⟩ = some (.int .i64 b) ∧ w'.cell? ⟨gv, 1, none⟩ = some (.slice a1 s.length c1) ∧ w'.cell? ⟨gv, 2, none⟩ = some (.slice a2 t.length c2)) qKr ⟨cv0, cv1, cv2⟩ (fun hHeld => ?_)
     replace V := V.ext (show Ext w10 w10.drew from qXt)
     replace Q := Q.ext (show Ext w10 w10.drew from qXt)
     replace VN := VN.ext (show Ext w10 w10.drew from qXt)
     replace X := X.ext (show Ext w10 w10.drew from qXt)
     have hne1 : gv ≠ gn := by omega
     have hne2 : gn ≠ gv := by omega
     refine qHk (v := ?_) 0 rfl (.inl ⟨by rfl, ?_⟩) ?_
     rotate_left
     ·
      (intro w hSw; (try dsimp only at hSw); go_simp; try with_reducible rfl)
     try simp only [Act.put, qa, qb, qc, qD, qE, qF]
     refine qHk (v := ?_) 1 rfl (.inl ⟨by rfl, ?_⟩) ?_
     rotate_left
     ·
      (intro w hSw; (try dsimp only at hSw); go_simp; try with_reducible rfl)
     try simp only [Act.put, qa, qb, qc, qD, qE, qF]
     refine qHk (v := ?_) 2 rfl (.inl ⟨by rfl, ?_⟩) ?_
     rotate_left
     ·
      (intro w hSw; (try dsimp only at hSw); go_simp; try with_reducible rfl)
     try simp only [Act.put, qa, qb, qc, qD, qE, qF]
     refine qHr 3 rfl (fun K hK => ?_)
     try simp only [Act.put, qa, qb, qc, qD, qE, qF]
     go_simp
     refine (pick1_c 3 rb _ _ (hr10.drew) (by omega) (by omega)).mono ?_
     rintro e w11 ⟨y, rfl, hy, hr11, C11⟩
     replace X := Rch.step X C11
     replace V := V.rch C11 (by omega) (by omega)
     replace Q := Q.rch C11 (by omega) (by omega)
     replace VN := VN.rch C11 (by omega) (by omega)
     clear C11
     have hw1 : IntKind.i64.wrap (1 + y) = 1 + y := IntWalk.i64_in _ (by omega)
     have cv0 := V.c0
     have cv1 := V.c1
     have cv2 := V.c2
     refine hK.out _ _ ⟨cv0, cv1, cv2⟩ (fun hHeld => ?_)
     clear hK K
     try simp only [Act.put, qa, qb, qc, qD, qE, qF]
     refine qHk (v := ?_) 4 rfl (.inl ⟨by rfl, ?_⟩) ?_
     rotate_left
     ·
      (intro w hSw; (try dsimp only at hSw); go_simp; try with_reducible rfl)
     try simp only [Act.put, qa, qb, qc, qD, qE, qF]
     refine qHr 5 rfl (fun K hK => ?_)
     try simp only [Act.put, qa, qb, qc, qD, qE, qF]
     go_simp
     have zn := VN.lt
     refine ((specWindowsOf_c b _ _ s t d (1 + y) _ _ _ (V.o1.ints (by omega)) (V.o2.ints (by have := hfit.out; omega)) (by omega)).mono (fun _ _ h => PFit.of h (winV_fit ..) (winV_live))).mono ?_
     clear hw1
     rintro e w12 ⟨b2, s2, t2, ok, p1, p2, m1, r1, m2, r2, rfl, o1, o2, od, hf2, hl2, x12⟩
     replace V := V.ext x12
     replace Q := Q.ext x12
     replace VN := VN.ext x12
     replace X := X.ext x12
     have hrN := hr11.ext x12
     have cv0 := V.c0
     have cv1 := V.c1
     have cv2 := V.c2
     refine hK.out _ _ ⟨cv0, cv1, cv2⟩ (fun hHeld => ?_)
     clear hK K
     try simp only [Act.put, qa, qb, qc, qD, qE, qF]
     refine qHk (v := ?_) 6 rfl (.inl ⟨by rfl, ?_⟩) ?_
     rotate_left
     ·
      (intro w hSw; (try dsimp only at hSw); go_simp; try with_reducible rfl)
     try simp only [Act.put, qa, qb, qc, qD, qE, qF]
     refine qHk (v := ?_) 7 rfl (.inl ⟨by rfl, ?_⟩) ?_
     rotate_left
     ·
      (intro w hSw; (try dsimp only at hSw); go_simp; try with_reducible rfl)
     try simp only [Act.put, qa, qb, qc, qD, qE, qF]
     refine qHk (v := ?_) 8 rfl (.inl ⟨by rfl, ?_⟩) ?_
     rotate_left
     ·
      (intro w hSw; (try dsimp only at hSw); go_simp; try with_reducible rfl)
     try simp only [Act.put, qa, qb, qc, qD, qE, qF]
     have vn0 := VN.c0
     have vn1 := VN.c1
     have vn2 := VN.c2
     have f_vn0 := VN.f0
     have f_vn1 := VN.f1
     have f_vn2 := VN.f2
     have z_vn := VN.lt
     refine qHr 9 rfl (fun K hK => ?_)
     try simp only [Act.put, qa, qb, qc, qD, qE, qF]
     go_simp
     refine hK.out _ _ ⟨(by go_simp), (by go_simp), (by go_simp)⟩ (fun hHeld => ?_)
     clear hK K
     try simp only [Act.put, qa, qb, qc, qD, qE, qF]
     refine qHk (v := ?_) 10 rfl (.inl ⟨by rfl, ?_⟩) ?_
     rotate_left
     ·
      (intro w hSw; (try dsimp only at hSw); go_simp; try with_reducible rfl)
     try simp only [Act.put, qa, qb, qc, qD, qE, qF]
     clear hne1 hne2
     refine wpAnyH_done qKr ?_ _
     clear hHeld
     clear vn0 vn1 vn2 f_vn0 f_vn1 f_vn2
     repeat go_step
     go_meet
     case rel => exact NextAt.put _ VN V Q (hrN.mono (by omega)) X hlt hgv hgvn hb1.out hb2.out o1 o2 od hf2 hl2 (by first | omega | (simp; omega))
    ·
     have zn := VN.lt
     have cv0 := V.c0
     have cv1 := V.c1
     have cv2 := V.c2
     go_wp2_with fail
     refine ((specAddDim_c b _ _ s t d _ _ _ (V.o1.ints (by omega)) (V.o2.ints (by have := hfit.out; omega))).mono (fun _ _ h => PFit.of h (addV_fit ..) (addV_live))).mono ?_
     rintro e w12 ⟨b2, s2, t2, ok, p1, p2, m1, r1, m2, r2, rfl, o1, o2, od, hf2, hl2, x12⟩
     replace V := V.ext x12
     replace Q := Q.ext x12
     replace VN := VN.ext x12
     replace X := X.ext x12
     have hrN := hr10.ext x12
     clear cv0 cv1 cv2
     have vn0 := VN.c0
     have vn1 := VN.c1
     have vn2 := VN.c2
     have f_vn0 := VN.f0
     have f_vn1 := VN.f1
     have f_vn2 := VN.f2
     have z_vn := VN.lt
     go_wp2_with fail
     clear vn0 vn1 vn2 f_vn0 f_vn1 f_vn2
     go_meet
     case rel => exact NextAt.put _ VN V Q (hrN.mono (by omega)) X hlt hgv hgvn hb1.out hb2.out o1 o2 od hf2 hl2 (by first | omega | (simp; omega))
    ·
     have zn := VN.lt
     have hdI0 : (0 : Int) ≤ (d : Int) := by omega
     have hdtI : (d : Int) < (t.length : Int) := by omega
     have hnet : t ≠ [] := by intro h; subst h; simp at hdt
     have cv0 := V.c0
     have cv1 := V.c1
     have cv2 := V.c2
     go_wp2_with fail
     refine (scopyView_c b _ _ s t _ _ _ (V.o1.ints (by omega)) (V.o2.ints (by have := hfit.out; omega))).mono ?_
     rintro e w12 ⟨sh2, st2, rfl, -, -, o1, o2, od, x12⟩
     replace V := V.ext x12
     replace Q := Q.ext x12
     replace VN := VN.ext x12
     replace X := X.ext x12
     have hr12 := hr10.ext x12
     clear cv0 cv1 cv2 x12 hr10
     obtain ⟨p1, m1, r1, rfl⟩ := o1.form
     obtain ⟨g2, r2, rfl, G2, -⟩ := (o2.ofNe hnet).row hnet
     have vn0 := VN.c0
     have vn1 := VN.c1
     have vn2 := VN.c2
     have f_vn0 := VN.f0
     have f_vn1 := VN.f1
     have f_vn2 := VN.f2
     have z_vn := VN.lt
     go_wp2_with fail
     clear vn0 vn1 vn2 f_vn0 f_vn1 f_vn2
     replace VN := VAt.put (B := gn + 1) (b := b) VN.c0 VN.c1 VN.c2 VN.f0 VN.f1 VN.f2 (o1.lower (by omega)) (o2.lower (by omega)) od hfit.out hl4 (Nat.lt_succ_self _)
     replace V := V.chgB (Chg.three (lo := gn) w12 (.int .i64 b) (.slice p1 m1 r1) (.slice (some ⟨g2, 0, none⟩) t.length r2)) hgvn hb1.out hb2.out
     replace Q := Q.chgB (Chg.three (lo := gn) w12 (.int .i64 b) (.slice p1 m1 r1) (.slice (some ⟨g2, 0, none⟩) t.length r2)) (by omega) (fun h => absurd rfl h) (fun h => absurd rfl h)
     replace X := ((X.set (a := ⟨gn, 0, none⟩) (show w.heap.size ≤ gn by omega) (.int .i64 b)).set (a := ⟨gn, 1, none⟩) (show w.heap.size ≤ gn by omega) (.slice p1 m1 r1)).set (a := ⟨gn, 2, none⟩) (show w.heap.size ≤ gn by omega) (.slice (some ⟨g2, 0, none⟩) t.length r2)
     replace hr12 := Rd.set2 (a := ⟨gn, 2, none⟩) (u := .slice (some ⟨g2, 0, none⟩) t.length r2) (show rb < gn by omega) (Rd.set2 (a := ⟨gn, 1, none⟩) (u := .slice p1 m1 r1) (show rb < gn by omega) (Rd.set2 (a := ⟨gn, 0, none⟩) (u := .int .i64 b) (show rb < gn by omega) hr12))
     clear o1 o2 od
     generalize ((w12.setCell ⟨gn, 0, none⟩ (.int .i64 b)).setCell ⟨gn, 1, none⟩ (.slice p1 m1 r1)).setCell ⟨gn, 2, none⟩ (.slice (some ⟨g2, 0, none⟩) t.length r2) = w13 at *
     have vn2 := VN.c2
     refine wp_region_tail (S := fun w' => w'.cell? ⟨gn, 2, none⟩ = some (.slice (some ⟨g2, 0, none⟩) t.length r2)) (fun i => decide (7 ≤ i)) qKr vn2 (fun hHeld => ?_)
     refine qTk (v := ?_) 0 rfl (.inl ⟨by rfl, ?_⟩) ?_
     rotate_left
     ·
      (intro w hSw; (try dsimp only at hSw); go_simp; try with_reducible rfl)
     try simp only [Act.put, qa, qb, qc, qD, qE, qF]
     refine qTk (v := ?_) 1 rfl (.inl ⟨by rfl, ?_⟩) ?_
     rotate_left
     ·
      (intro w hSw; (try dsimp only at hSw); go_simp; try with_reducible rfl)
     try simp only [Act.put, qa, qb, qc, qD, qE, qF]
     refine qTk (v := ?_) 2 rfl (.inl ⟨by rfl, ?_⟩) ?_
     rotate_left
     ·
      (intro w hSw; (try dsimp only at hSw); go_simp; try with_reducible rfl)
     try simp only [Act.put, qa, qb, qc, qD, qE, qF]
     refine qTk (v := ?_) 3 rfl (.inl ⟨by rfl, ?_⟩) ?_
     rotate_left
     ·
      (intro w hSw; (try dsimp only at hSw); go_simp; try with_reducible rfl)
     try simp only [Act.put, qa, qb, qc, qD, qE, qF]
     refine wpTail_one (i := 4) qKr rfl rfl (fun K hK => ?_)
     try simp only [Act.put, qa, qb, qc, qD, qE, qF]
     go_simp
     have EE : Ext w13 (w13.drew.alloc (.cells #[.int .i64 0, .int .i64 2, .int .i64 3, .int .i64 1, .int .i64 (-1), .int .i64 5] 3)) := qXt
     refine hK.out _ _ (EE.cell vn2) (fun hHeld => ?_)
     clear hK K
     try simp only [Act.put, qa, qb, qc, qD, qE, qF]
     refine wpTail_one (i := 5) qKr rfl rfl (fun K hK => ?_)
     try simp only [Act.put, qa, qb, qc, qD, qE, qF]
     go_simp
     refine (oneLit_c _ _ _ rb _ _ hr12.drew (by omega) (by rfl) (by rfl) (by constructor <;> simp) (by first | rfl | simp)).mono ?_
     rintro e w14 ⟨y, rfl, -, hr14, C14⟩
     replace X := Rch.step (X.ext EE) C14
     replace V := (V.ext EE).rch C14 (by omega) (by omega)
     replace Q := (Q.ext EE).rch C14 (by omega) (by omega)
     replace VN := (VN.ext EE).rch C14 (by omega) (by omega)
     clear C14 EE hr12
     replace vn2 := VN.c2
     refine hK.out _ _ vn2 (fun hHeld => ?_)
     clear hK K
     try simp only [Act.put, qa, qb, qc, qD, qE, qF]
     refine qTk (v := ?_) 6 rfl (.inl ⟨by rfl, ?_⟩) ?_
     rotate_left
     ·
      (intro w hSw; (try dsimp only at hSw); go_simp; try with_reducible rfl)
     try simp only [Act.put, qa, qb, qc, qD, qE, qF]
     obtain ⟨A1, A2⟩ := (VN.o2.ofNe hnet).cell d hdt
     refine wpTail_last (i := 7) qKr rfl rfl (fun K hK => ?_)
     try simp only [Act.put, qa, qb, qc, qD, qE, qF]
     go_simp
     refine hK.out _ _ ?_
     clear hK K
     try simp only [Act.put, qa, qb, qc, qD, qE, qF]
     refine wpTail_done qKr ?_ _
     clear hHeld A1 A2 vn2
     replace V := V.chgB ((Chg.refl g2 (g2 + 1) w14).setCell (p := ⟨g2, d, none⟩) (Nat.le_refl _) (Nat.lt_succ_self _) (.int .i64 y)) (by omega) (fun h q hq => by have := hb1.out h q hq; omega) (fun h q hq => by have := hb2.out h q hq; omega)
     replace Q := Q.chgB ((Chg.refl g2 (g2 + 1) w14).setCell (p := ⟨g2, d, none⟩) (Nat.le_refl _) (Nat.lt_succ_self _) (.int .i64 y)) (by omega) (fun h => absurd rfl h) (fun h => absurd rfl h)
     replace VN := VN.setT hdt y
     replace X := X.set (a := ⟨g2, d, none⟩) (show w.heap.size ≤ g2 by omega) (.int .i64 y)
     replace hr14 := Rd.set2 (a := ⟨g2, d, none⟩) (u := .int .i64 y) (show rb < g2 by omega) hr14
     generalize w14.setCell ⟨g2, d, none⟩ (.int .i64 y) = w15 at *
     go_wp2_with fail
     go_meet
     case rel => exact ⟨true, b, s, t.set d y, _, _, _, _, _, _, rfl, fun _ => hne.out, VN, V, Q, hr14.mono (by omega), X⟩
   case rest =>
    obtain ⟨o, b2, s2, t2, p1, p2, m1, r1, m2, r2, rfl, hlive, VN, V, Q, hr, X⟩ := hcut
    replace hlive := Lib.hid hlive
    cases o
    ·
     go_wp2_with fail
     go_roundw
     case rel => exact ⟨m', q + 20, b, s, t, a1, a2, _, c1, _, c2, by first | rfl | go_num, fun h => absurd h hne.out, V, Q, hr, by omega, X⟩
     case measure => simp [intOf]
    ·
     have le2 := VN.le
     have fit2 := Lib.hid VN.fit
     have vn0 := VN.c0
     have vn1 := VN.c1
     have vn2 := VN.c2
     have f_vn0 := VN.f0
     have f_vn1 := VN.f1
     have f_vn2 := VN.f2
     have z_vn := VN.lt
     go_wp2_with fail
     refine (validView_c b2 _ _ s2 t2 _ _ _ (VN.o1.ints (by omega)) (VN.o2.ints (by have := fit2.out; omega))).mono ?_
     rintro e w20 ⟨rfl, x20⟩
     clear vn0 vn1 vn2 f_vn0 f_vn1 f_vn2
     replace V := V.ext x20
     replace Q := Q.ext x20
     replace VN := VN.ext x20
     replace X := X.ext x20
     replace hr := hr.ext x20
     clear x20
     generalize viewB b2 s2 t2 = vb
     cases vb
     ·
      go_wp2_with fail
      go_roundw
      case rel => exact ⟨m', q + 20, b, s, t, a1, a2, _, c1, _, c2, by first | rfl | go_num, fun h => absurd h hne.out, V, Q, hr, by omega, X⟩
      case measure => simp [intOf]
     ·
      have vn0 := VN.c0
      have vn1 := VN.c1
      have vn2 := VN.c2
      have f_vn0 := VN.f0
      have f_vn1 := VN.f1
      have f_vn2 := VN.f2
      have z_vn := VN.lt
      have cv0 := V.c0
      have cv1 := V.c1
      have cv2 := V.c2
      have f_cv0 := V.f0
      have f_cv1 := V.f1
      have f_cv2 := V.f2
      have z_cv := V.lt
      go_wp2_with fail
      clear vn0 vn1 vn2 f_vn0 f_vn1 f_vn2
      clear cv0 cv1 cv2 f_cv0 f_cv1 f_cv2
      go_roundw
      case rel => exact ⟨m', q + 20, b2, s2, t2, p1, p2, m1, r1, m2, r2, by first | rfl | go_num, fun h => absurd h (hlive.out (by first | rfl | trivial)), (VAt.put (B := gn + 1) V.c0 V.c1 V.c2 V.f0 V.f1 V.f2 VN.o1 VN.o2 VN.sep VN.fit VN.le (by omega)).lower (by omega), Q.chgB (Chg.three _ _ _ _) (by omega) (fun h => absurd rfl h) (fun h => absurd rfl h), Rd.set2 (show rb < gv by omega) (Rd.set2 (show rb < gv by omega) (Rd.set2 (show rb < gv by omega) hr)), by omega, ((X.set (show w.heap.size ≤ gv by omega) _).set (show w.heap.size ≤ gv by omega) _).set (show w.heap.size ≤ gv by omega) _⟩
      case measure => simp [intOf]
  ·
   have hex : m = 0 ∨ (0 < m ∧ s.length = 0) := by
    by_cases h0 : m = 0
    ·
     exact .inl h0
    ·
     refine .inr ⟨by omega, ?_⟩
     apply Classical.byContradiction
     intro h; exact hgo ⟨by omega, fun h2 => h (by rw [h2]; rfl)⟩
   clear hgo
   rcases hex with rfl | ⟨hm0, hs0⟩
   ·
    have hmI : ¬ (0 : Int) < ((0 : Nat) : Int) := by omega
    have cv0 := V.c0
    have cv1 := V.c1
    have cv2 := V.c2
    have f_cv0 := V.f0
    have f_cv1 := V.f1
    have f_cv2 := V.f2
    have z_cv := V.lt
    go_wp2_with fail
    refine (validView_c b _ _ s t _ _ _ (V.o1.ints (by omega)) (V.o2.ints (by have := hfit.out; omega))).mono ?_
    rintro e w20 ⟨rfl, x20⟩
    clear cv0 cv1 cv2 f_cv0 f_cv1 f_cv2
    replace V := V.ext x20
    replace Q := Q.ext x20
    replace X := X.ext x20
    replace hr := hr.ext x20
    clear x20
    have hzw := Q.lt
    generalize viewB b s t = vb
    cases vb
    ·
     have cv0 := V.c0
     have cv1 := V.c1
     have cv2 := V.c2
     have f_cv0 := V.f0
     have f_cv1 := V.f1
     have f_cv2 := V.f2
     have z_cv := V.lt
     have cq0 := Q.c0
     have cq1 := Q.c1
     have cq2 := Q.c2
     have f_cq0 := Q.f0
     have f_cq1 := Q.f1
     have f_cq2 := Q.f2
     have z_cq := Q.lt
     have hq1 : w.heap.size ≠ gv := by omega
     have hq2 : gv ≠ w.heap.size := by omega
     go_wp2_with fail
     clear cv0 cv1 cv2 f_cv0 f_cv1 f_cv2
     clear cq0 cq1 cq2 f_cq0 f_cq1 f_cq2
     replace V := V.setBase 0
     replace Q := Q.chgB ((Chg.refl gv (gv + 1) w20).setCell (p := ⟨gv, 0, none⟩) (Nat.le_refl _) (Nat.lt_succ_self _) (.int .i64 0)) (by omega) (fun h => absurd rfl h) (fun h => absurd rfl h)
     replace X := X.set (a := ⟨gv, 0, none⟩) (show w.heap.size ≤ gv by omega) (.int .i64 0)
     replace hr := Rd.set2 (a := ⟨gv, 0, none⟩) (u := .int .i64 0) (show rb < gv by omega) hr
     generalize w20.setCell ⟨gv, 0, none⟩ (.int .i64 0) = w21 at *
     have cq0 := Q.c0
     have cq1 := Q.c1
     have cq2 := Q.c2
     have f_cq0 := Q.f0
     have f_cq1 := Q.f1
     have f_cq2 := Q.f2
     have z_cq := Q.lt
     refine bodyPost_ret (v := .agg #[.int .i64 0, .slice a1 s.length c1, .slice a2 t.length c2]) (by simp only [results, Try.results105]; go_simp) rfl ?_
     clear cq0 cq1 cq2 f_cq0 f_cq1 f_cq2
     replace V := V.chg (Chg.three (lo := w.heap.size) w21 (.int .i64 0) (.slice a1 s.length c1) (.slice a2 t.length c2)) (by omega) (Nat.le_refl _)
     replace X := ((X.set (a := ⟨w.heap.size, 0, none⟩) (show w.heap.size ≤ w.heap.size by omega) (.int .i64 0)).set (a := ⟨w.heap.size, 1, none⟩) (show w.heap.size ≤ w.heap.size by omega) (.slice a1 s.length c1)).set (a := ⟨w.heap.size, 2, none⟩) (show w.heap.size ≤ w.heap.size by omega) (.slice a2 t.length c2)
     replace hr := Rd.set2 (a := ⟨w.heap.size, 2, none⟩) (u := .slice a2 t.length c2) (show rb < w.heap.size by omega) (Rd.set2 (a := ⟨w.heap.size, 1, none⟩) (u := .slice a1 s.length c1) (show rb < w.heap.size by omega) (Rd.set2 (a := ⟨w.heap.size, 0, none⟩) (u := .int .i64 0) (show rb < w.heap.size by omega) hr))
     generalize ((w21.setCell ⟨w.heap.size, 0, none⟩ (.int .i64 0)).setCell ⟨w.heap.size, 1, none⟩ (.slice a1 s.length c1)).setCell ⟨w.heap.size, 2, none⟩ (.slice a2 t.length c2) = w30 at *
     exact ⟨0, s, t, a1, a2, _, c1, _, c2, rfl, V.o1.lower (by omega), V.o2.lower (by omega), V.sep, V.fit, ⟨V.le, hN.out⟩, hr.mono (by omega), X⟩
    ·
     have cv0 := V.c0
     have cv1 := V.c1
     have cv2 := V.c2
     have f_cv0 := V.f0
     have f_cv1 := V.f1
     have f_cv2 := V.f2
     have z_cv := V.lt
     have cq0 := Q.c0
     have cq1 := Q.c1
     have cq2 := Q.c2
     have f_cq0 := Q.f0
     have f_cq1 := Q.f1
     have f_cq2 := Q.f2
     have z_cq := Q.lt
     have hq1 : w.heap.size ≠ gv := by omega
     have hq2 : gv ≠ w.heap.size := by omega
     go_wp2_with fail
     clear cv0 cv1 cv2 f_cv0 f_cv1 f_cv2
     refine bodyPost_ret (v := .agg #[.int .i64 b, .slice a1 s.length c1, .slice a2 t.length c2]) (by simp only [results, Try.results105]; go_simp) rfl ?_
     clear cq0 cq1 cq2 f_cq0 f_cq1 f_cq2
     replace V := V.chg (Chg.three (lo := w.heap.size) w20 (.int .i64 b) (.slice a1 s.length c1) (.slice a2 t.length c2)) (by omega) (Nat.le_refl _)
     replace X := ((X.set (a := ⟨w.heap.size, 0, none⟩) (show w.heap.size ≤ w.heap.size by omega) (.int .i64 b)).set (a := ⟨w.heap.size, 1, none⟩) (show w.heap.size ≤ w.heap.size by omega) (.slice a1 s.length c1)).set (a := ⟨w.heap.size, 2, none⟩) (show w.heap.size ≤ w.heap.size by omega) (.slice a2 t.length c2)
     replace hr := Rd.set2 (a := ⟨w.heap.size, 2, none⟩) (u := .slice a2 t.length c2) (show rb < w.heap.size by omega) (Rd.set2 (a := ⟨w.heap.size, 1, none⟩) (u := .slice a1 s.length c1) (show rb < w.heap.size by omega) (Rd.set2 (a := ⟨w.heap.size, 0, none⟩) (u := .int .i64 b) (show rb < w.heap.size by omega) hr))
     generalize ((w20.setCell ⟨w.heap.size, 0, none⟩ (.int .i64 b)).setCell ⟨w.heap.size, 1, none⟩ (.slice a1 s.length c1)).setCell ⟨w.heap.size, 2, none⟩ (.slice a2 t.length c2) = w30 at *
     exact ⟨b, s, t, a1, a2, _, c1, _, c2, rfl, V.o1.lower (by omega), V.o2.lower (by omega), V.sep, V.fit, ⟨V.le, hN.out⟩, hr.mono (by omega), X⟩
   ·
    have hmI : (0 : Int) < (m : Int) := by omega
    have hsI : ¬ (0 : Int) < (s.length : Int) := by omega
    clear hs0
    have cv0 := V.c0
    have cv1 := V.c1
    have cv2 := V.c2
    have f_cv0 := V.f0
    have f_cv1 := V.f1
    have f_cv2 := V.f2
    have z_cv := V.lt
    go_wp2_with fail
    refine (validView_c b _ _ s t _ _ _ (V.o1.ints (by omega)) (V.o2.ints (by have := hfit.out; omega))).mono ?_
    rintro e w20 ⟨rfl, x20⟩
    clear cv0 cv1 cv2 f_cv0 f_cv1 f_cv2
    replace V := V.ext x20
    replace Q := Q.ext x20
    replace X := X.ext x20
    replace hr := hr.ext x20
    clear x20
    have hzw := Q.lt
    generalize viewB b s t = vb
    cases vb
    ·
     have cv0 := V.c0
     have cv1 := V.c1
     have cv2 := V.c2
     have f_cv0 := V.f0
     have f_cv1 := V.f1
     have f_cv2 := V.f2
     have z_cv := V.lt
     have cq0 := Q.c0
     have cq1 := Q.c1
     have cq2 := Q.c2
     have f_cq0 := Q.f0
     have f_cq1 := Q.f1
     have f_cq2 := Q.f2
     have z_cq := Q.lt
     have hq1 : w.heap.size ≠ gv := by omega
     have hq2 : gv ≠ w.heap.size := by omega
     go_wp2_with fail
     clear cv0 cv1 cv2 f_cv0 f_cv1 f_cv2
     clear cq0 cq1 cq2 f_cq0 f_cq1 f_cq2
     replace V := V.setBase 0
     replace Q := Q.chgB ((Chg.refl gv (gv + 1) w20).setCell (p := ⟨gv, 0, none⟩) (Nat.le_refl _) (Nat.lt_succ_self _) (.int .i64 0)) (by omega) (fun h => absurd rfl h) (fun h => absurd rfl h)
     replace X := X.set (a := ⟨gv, 0, none⟩) (show w.heap.size ≤ gv by omega) (.int .i64 0)
     replace hr := Rd.set2 (a := ⟨gv, 0, none⟩) (u := .int .i64 0) (show rb < gv by omega) hr
     generalize w20.setCell ⟨gv, 0, none⟩ (.int .i64 0) = w21 at *
     have cq0 := Q.c0
     have cq1 := Q.c1
     have cq2 := Q.c2
     have f_cq0 := Q.f0
     have f_cq1 := Q.f1
     have f_cq2 := Q.f2
     have z_cq := Q.lt
     refine bodyPost_ret (v := .agg #[.int .i64 0, .slice a1 s.length c1, .slice a2 t.length c2]) (by simp only [results, Try.results105]; go_simp) rfl ?_
     clear cq0 cq1 cq2 f_cq0 f_cq1 f_cq2
     replace V := V.chg (Chg.three (lo := w.heap.size) w21 (.int .i64 0) (.slice a1 s.length c1) (.slice a2 t.length c2)) (by omega) (Nat.le_refl _)
     replace X := ((X.set (a := ⟨w.heap.size, 0, none⟩) (show w.heap.size ≤ w.heap.size by omega) (.int .i64 0)).set (a := ⟨w.heap.size, 1, none⟩) (show w.heap.size ≤ w.heap.size by omega) (.slice a1 s.length c1)).set (a := ⟨w.heap.size, 2, none⟩) (show w.heap.size ≤ w.heap.size by omega) (.slice a2 t.length c2)
     replace hr := Rd.set2 (a := ⟨w.heap.size, 2, none⟩) (u := .slice a2 t.length c2) (show rb < w.heap.size by omega) (Rd.set2 (a := ⟨w.heap.size, 1, none⟩) (u := .slice a1 s.length c1) (show rb < w.heap.size by omega) (Rd.set2 (a := ⟨w.heap.size, 0, none⟩) (u := .int .i64 0) (show rb < w.heap.size by omega) hr))
     generalize ((w21.setCell ⟨w.heap.size, 0, none⟩ (.int .i64 0)).setCell ⟨w.heap.size, 1, none⟩ (.slice a1 s.length c1)).setCell ⟨w.heap.size, 2, none⟩ (.slice a2 t.length c2) = w30 at *
     exact ⟨0, s, t, a1, a2, _, c1, _, c2, rfl, V.o1.lower (by omega), V.o2.lower (by omega), V.sep, V.fit, ⟨V.le, hN.out⟩, hr.mono (by omega), X⟩
    ·
     have cv0 := V.c0
     have cv1 := V.c1
     have cv2 := V.c2
     have f_cv0 := V.f0
     have f_cv1 := V.f1
     have f_cv2 := V.f2
     have z_cv := V.lt
     have cq0 := Q.c0
     have cq1 := Q.c1
     have cq2 := Q.c2
     have f_cq0 := Q.f0
     have f_cq1 := Q.f1
     have f_cq2 := Q.f2
     have z_cq := Q.lt
     have hq1 : w.heap.size ≠ gv := by omega
     have hq2 : gv ≠ w.heap.size := by omega
     go_wp2_with fail
     clear cv0 cv1 cv2 f_cv0 f_cv1 f_cv2
     refine bodyPost_ret (v := .agg #[.int .i64 b, .slice a1 s.length c1, .slice a2 t.length c2]) (by simp only [results, Try.results105]; go_simp) rfl ?_
     clear cq0 cq1 cq2 f_cq0 f_cq1 f_cq2
     replace V := V.chg (Chg.three (lo := w.heap.size) w20 (.int .i64 b) (.slice a1 s.length c1) (.slice a2 t.length c2)) (by omega) (Nat.le_refl _)
     replace X := ((X.set (a := ⟨w.heap.size, 0, none⟩) (show w.heap.size ≤ w.heap.size by omega) (.int .i64 b)).set (a := ⟨w.heap.size, 1, none⟩) (show w.heap.size ≤ w.heap.size by omega) (.slice a1 s.length c1)).set (a := ⟨w.heap.size, 2, none⟩) (show w.heap.size ≤ w.heap.size by omega) (.slice a2 t.length c2)
     replace hr := Rd.set2 (a := ⟨w.heap.size, 2, none⟩) (u := .slice a2 t.length c2) (show rb < w.heap.size by omega) (Rd.set2 (a := ⟨w.heap.size, 1, none⟩) (u := .slice a1 s.length c1) (show rb < w.heap.size by omega) (Rd.set2 (a := ⟨w.heap.size, 0, none⟩) (u := .int .i64 b) (show rb < w.heap.size by omega) hr))
     generalize ((w20.setCell ⟨w.heap.size, 0, none⟩ (.int .i64 b)).setCell ⟨w.heap.size, 1, none⟩ (.slice a1 s.length c1)).setCell ⟨w.heap.size, 2, none⟩ (.slice a2 t.length c2) = w30 at *
     exact ⟨b, s, t, a1, a2, _, c1, _, c2, rfl, V.o1.lower (by omega), V.o2.lower (by omega), V.sep, V.fit, ⟨V.le, hN.out⟩, hr.mono (by omega), X⟩


end Go.Proofs.Ytpgkhjmboiepcaa

/- Walks: a drawn view that may be no view. -/
namespace Go.Proofs.Ytpgkhjmboiepcaa
open Go.RowKit
set_option linter.unusedVariables false
set_option maxRecDepth 100000


theorem OwnZ.chgI {lo hi B : Nat} {w w' : World} {y : Value} {xs : List Int} (h : OwnZ w B y xs) (k : Chg lo hi w w') (hne : xs ≠ [] → ∀ g, y.ownBlock = some g → g < lo ∨ hi ≤ g) : OwnZ w' B y xs := by
 rcases h with ho | ho
 ·
  exact .inl ho
 ·
  by_cases hx : xs = []
  ·
   subst hx
   rcases ho.2 with ⟨h2, _⟩ | ⟨g', cap, cur, rfl, hb, hh, r⟩
   ·
    subst h2; exact .inl ⟨rfl, none, 0, rfl, by simp, fun _ => rfl⟩
   ·
    exact .inl ⟨rfl, some ⟨g', 0, none⟩, cap, rfl, r.2.1, fun h => by cases h⟩
  ·
   obtain ⟨g', cap, e, _⟩ := ho.row hx
   subst e
   exact .inr (ho.chgN k (hne hx g' rfl))
theorem Rch.below' {rb lo hi : Nat} {w a b : World} (h : Chg rb (rb + 1) w a) (k : Chg lo hi a b) (hl : w.heap.size ≤ lo) : Chg rb (rb + 1) w b :=
 ⟨k.os.trans h.os, k.tape.trans h.tape, k.output.trans h.output, Nat.le_trans h.size k.size, fun i hi2 hd => (k.block i (Nat.lt_of_lt_of_le hi2 h.size) (.inl (by omega))).trans (h.block i hi2 hd)⟩
/-- a view that need be none lies in block gv -/
def SAt (rb q gv : Nat) (w wx : World) : Prop := ∃ (b : Int) (s t : List Int) (p1 p2 : Option Addr) (n1 r1 n2 r2 : Nat), wx.cell? ⟨gv, 0, none⟩ = some (.int .i64 b) ∧ wx.cell? ⟨gv, 1, none⟩ = some (.slice p1 n1 r1) ∧ wx.cell? ⟨gv, 2, none⟩ = some (.slice p2 n2 r2) ∧
 OwnZ wx (w.heap.size + 1) (.slice p1 n1 r1) s ∧ OwnZ wx (w.heap.size + 1) (.slice p2 n2 r2) t ∧ (s.length ≤ 4 ∧ t.length ≤ 5) ∧ VAt (w.heap.size + 1) w.heap.size wx 0 (.slice none 0 0) (.slice none 0 0) [] [] ∧ Rd wx rb q ∧ Rch rb w wx
def SView (rb k : Nat) (w : World) (e : Ending) (w' : World) : Prop := ∃ (b : Int) (s t : List Int) (p1 p2 : Option Addr) (n1 r1 n2 r2 : Nat), e = .returned (.agg #[.int .i64 b, .slice p1 n1 r1, .slice p2 n2 r2]) ∧
 Ints w' w.heap.size (.slice p1 n1 r1) s ∧ Ints w' w.heap.size (.slice p2 n2 r2) t ∧ s.length ≤ 4 ∧ t.length ≤ 5 ∧ Rd w' rb k ∧ Chg rb (rb + 1) w w'
theorem SAt.of {rb q gv : Nat} {w wx : World} {b : Int} {p1 p2 : Option Addr} {n1 r1 n2 r2 : Nat} {s t : List Int} (V : VAt (w.heap.size + 1) gv wx b (.slice p1 n1 r1) (.slice p2 n2 r2) s t) (Q : VAt (w.heap.size + 1) w.heap.size wx 0 (.slice none 0 0) (.slice none 0 0) [] []) (hr : Rd wx rb q) (X : Rch rb w wx) : SAt rb q gv w wx :=
 ⟨b, s, t, p1, p2, n1, r1, n2, r2, V.c0, V.c1, V.c2, V.o1, V.o2, ⟨V.le, by have := V.fit; have := V.le; omega⟩, Q, hr, X⟩
theorem SAt.put {rb q gv : Nat} {w w9 : World} {b : Int} {p1 p2 : Option Addr} {n1 r1 n2 r2 : Nat} {v2 : Value} {s t : List Int} (c0 : w9.cell? ⟨gv, 0, none⟩ = some (.int .i64 b)) (c1 : w9.cell? ⟨gv, 1, none⟩ = some (.slice p1 n1 r1)) (c2 : w9.cell? ⟨gv, 2, none⟩ = some v2) (f2 : w9.frozen? ⟨gv, 2, none⟩ = false)
  (o1 : OwnZ w9 (w.heap.size + 1) (.slice p1 n1 r1) s) (o2 : OwnZ w9 (w.heap.size + 1) (.slice p2 n2 r2) t) (m1 : s ≠ [] → ∀ g, (Value.slice p1 n1 r1).ownBlock = some g → g ≠ gv) (m2 : ∀ g, (Value.slice p2 n2 r2).ownBlock = some g → g ≠ gv) (hl : s.length ≤ 4 ∧ t.length ≤ 5)
  (Q : VAt (w.heap.size + 1) w.heap.size w9 0 (.slice none 0 0) (.slice none 0 0) [] []) (hr : Rd w9 rb q) (X : Rch rb w w9) (hg : w.heap.size < gv) (hrb : rb < w.heap.size) : SAt rb q gv w (w9.setCell ⟨gv, 2, none⟩ (.slice p2 n2 r2)) := by
 have k : Chg gv (gv + 1) w9 (w9.setCell ⟨gv, 2, none⟩ (.slice p2 n2 r2)) := (Chg.refl gv (gv + 1) w9).setCell (p := ⟨gv, 2, none⟩) (Nat.le_refl _) (Nat.lt_succ_self _) _
 exact ⟨b, s, t, p1, p2, n1, r1, n2, r2, by go_simp, by go_simp, by go_simp, o1.chgI k (fun h g hg' => by have := m1 h g hg'; omega), o2.chgI k (fun _ g hg' => by have := m2 g hg'; omega), hl,
  Q.chgB k (by omega) (fun h => absurd rfl h) (fun h => absurd rfl h), Rd.set2 (show rb < gv by omega) hr, X.set (show w.heap.size ≤ gv by omega) _⟩

set_option maxHeartbeats 6400000 in
theorem someView_c (rb k : Nat) (w : World) (hr : Rd w rb k) (hk : k ≤ 700000) :
  Calls Try.prog 78 #[.pointer (some ⟨rb, 0, none⟩)] w (SView rb (k + 210) w) := by
 have hlt := hr.lt
 have X := Rch.refl rb w
 go_enter Try.func78, Try.ntmps78
 go_wp2_with fail
 have Q : VAt (w.heap.size + 1) w.heap.size (w.alloc (.cells #[.int .i64 0, .slice none 0 0, .slice none 0 0] 25)) 0 (.slice none 0 0) (.slice none 0 0) [] [] :=
  VAt.new 0 (.inl ⟨rfl, none, 0, rfl, by simp, fun _ => rfl⟩) (.inl ⟨rfl, none, 0, rfl, by simp, fun _ => rfl⟩) (fun h => absurd rfl h) rfl (by simp)
 refine (goodView_c rb k _ (hr.alloc _) (by omega)).mono ?_
 rintro e w1 ⟨b, s, t, p1, p2, n1, r1, n2, r2, rfl, o1, o2, od, hf, ⟨hl, hN⟩, hr1, C1⟩
 have X1 : Rch rb w w1 := Rch.step (by (try change Rch rb w _); repeat (first | (with_reducible exact X) | (with_reducible exact Rch.refl _ _) | (with_reducible apply Rch.drewN) | (with_reducible apply Rch.drew) | (with_reducible apply Rch.alloc) | (with_reducible refine Rch.set ?_ (by first | assumption | (simp <;> omega) | omega) _))) C1
 have hs1 := C1.size
 simp only [World.size_alloc] at hs1 o1 o2
 replace Q := Q.rch C1 (by omega) (by omega)
 clear C1 X hr
 have V : VAt (w.heap.size + 1) w1.heap.size (w1.alloc (.cells #[.int .i64 b, .slice p1 n1 r1, .slice p2 n2 r2] 25)) b (.slice p1 n1 r1) (.slice p2 n2 r2) s t := VAt.new b o1 o2 od hf hl
 have E1 : Ext w1 (w1.alloc (.cells #[.int .i64 b, .slice p1 n1 r1, .slice p2 n2 r2] 25)) := qXt
 replace Q := Q.ext E1
 have X2 := X1.ext E1
 have hr2 := hr1.ext E1
 clear E1 o1 o2 X1 hr1
 replace od := Lib.hid od
 replace hf := Lib.hid hf
 replace hN := Lib.hid hN
 go_wp2_with fail
 generalize w1.alloc (.cells #[.int .i64 b, .slice p1 n1 r1, .slice p2 n2 r2] 25) = w2 at *
 have hgv : w.heap.size < w1.heap.size := by omega
 generalize w1.heap.size = gv at *
 refine (pick1_c 24 rb _ _ hr2 (by omega) (by omega)).mono ?_
 rintro e w3 ⟨x, rfl, hx, hr3, C3⟩
 have X3 := Rch.step X2 C3
 replace V := V.rch C3 (by omega) (by omega)
 replace Q := Q.rch C3 (by omega) (by omega)
 clear C3 X2 hr2
 go_upto_block 0 with fail
 go_cut [] (fun wx => SAt rb (k + 205) gv w wx)
 case first =>
  have hx6 : x = 0 ∨ x = 1 ∨ x = 2 ∨ 3 ≤ x := by omega
  clear hx
  rcases hx6 with rfl | rfl | rfl | hx3
  ·
   have cv0 := V.c0
   have cv1 := V.c1
   have cv2 := V.c2
   have f_cv0 := V.f0
   have f_cv1 := V.f1
   have f_cv2 := V.f2
   have z_cv := V.lt
   go_wp2_with fail
   refine (oneLit_c _ _ _ rb _ _ hr3 (by omega) (by rfl) (by rfl) (by constructor <;> simp) (by first | rfl | simp)).mono ?_
   rintro e w5 ⟨x5, rfl, -, hr5, C5⟩
   clear cv0 cv1 cv2 f_cv0 f_cv1 f_cv2
   have X5 := Rch.step (Rch.alloc X3 _) C5
   replace V := (V.ext ((Ext.refl w3).alloc _)).rch C5 (by omega) (by omega)
   replace Q := (Q.ext ((Ext.refl w3).alloc _)).rch C5 (by omega) (by omega)
   clear C5 X3 hr3
   have cv0 := V.c0
   have cv1 := V.c1
   have cv2 := V.c2
   have f_cv0 := V.f0
   have f_cv1 := V.f1
   have f_cv2 := V.f2
   have z_cv := V.lt
   go_wp2_with fail
   clear cv0 cv1 cv2 f_cv0 f_cv1 f_cv2
   replace Q := Q.chgB ((Chg.refl gv (gv + 1) w5).setCell (p := ⟨gv, 0, none⟩) (Nat.le_refl _) (Nat.lt_succ_self _) (.int .i64 x5)) (by omega) (fun h => absurd rfl h) (fun h => absurd rfl h)
   replace V := V.setBase x5
   replace hr5 := Rd.set2 (a := ⟨gv, 0, none⟩) (u := .int .i64 x5) (show rb < gv by omega) hr5
   replace X5 := X5.set (a := ⟨gv, 0, none⟩) (show w.heap.size ≤ gv by omega) (.int .i64 x5)
   generalize w5.setCell ⟨gv, 0, none⟩ (.int .i64 x5) = w6 at *
   go_meet
   case rel => exact SAt.of V Q (hr5.mono (by omega)) X5
  ·
   by_cases ht : t = []
   ·
    have hse : s = [] := List.eq_nil_of_length_eq_zero (by have := hf.out; rw [ht] at this; simpa using this.symm)
    obtain ⟨hn2, hr2'⟩ := hN.out hse
    subst hn2
    subst hr2'
    have hm2 : Hid (s ≠ [] → ∀ g, (Value.slice p1 n1 r1).ownBlock = some g → g ≠ gv) := Lib.hid (fun h g hg h2 => V.n1 h (by rw [hg, h2]))
    have o1 := V.o1
    have hv := V.lt
    have zw := X3.size
    clear hse
    replace ht := Lib.hid ht
    have cv0 := V.c0
    have cv1 := V.c1
    have cv2 := V.c2
    have f_cv0 := V.f0
    have f_cv1 := V.f1
    have f_cv2 := V.f2
    have z_cv := V.lt
    clear V
    have main : ∀ (v9 : Value) (w9 : World) (B9 : Nat), w3.heap.size ≤ B9 → OwnZ w9 B9 v9 [1] → Ext w3 w9 → ∃ g9 n9 c9, v9 = .slice (some ⟨g9, 0, none⟩) n9 c9 ∧ w9.cell? ⟨gv, 0, none⟩ = some (.int .i64 b) ∧ w9.cell? ⟨gv, 1, none⟩ = some (.slice p1 n1 r1) ∧ w9.cell? ⟨gv, 2, none⟩ = some (.slice p2 0 0) ∧ w9.frozen? ⟨gv, 2, none⟩ = false ∧ SAt rb (k + 205) gv w (w9.setCell ⟨gv, 2, none⟩ (.slice (some ⟨g9, 0, none⟩) n9 c9)) := by
     intro v9 w9 B9 hB ho E9
     obtain ⟨g9, n9, c9, rfl, hn9, G9, G9'⟩ := (ho.ofNe (by simp)).row2 (by simp)
     refine ⟨g9, n9, c9, rfl, E9.cell cv0, E9.cell cv1, E9.cell cv2, E9.frz hv f_cv2, ?_⟩
     exact SAt.put (E9.cell cv0) (E9.cell cv1) (E9.cell cv2) (E9.frz hv f_cv2) (o1.ext E9) (ho.lower (by omega)) hm2.out (fun g hg => by have h7 : some g9 = some g := hg; cases h7; omega) ⟨hl, by simp⟩ (Q.ext E9) ((hr3.ext E9).mono (by omega)) (X3.ext E9) hgv hlt
    replace main := Lib.hid main
    clear o1 Q hr3 X3
    cases p2 with
    | none =>
     go_wp2_with (
      at_builtin
      refine wpList_app rfl (.tmp 17) (.tmp 18) rfl rfl rfl (OwnI.nil _ w3.heap.size) (Ints.one _ 0 _ (Nat.zero_le _)) (by simp <;> omega) (by simp <;> omega) ?_
      intro v9 w9 ho hgr hbl hvb
      obtain ⟨g9, n9, c9, rfl, e0, e1, e2, e3, hS⟩ := main.out v9 w9 _ (Nat.le_refl _) ho.z (Ext.below (show Ext w3 _ from qXt) hbl (Nat.le_refl _))
      clear ho hgr hbl hvb cv0 cv1 cv2 f_cv0 f_cv1 f_cv2
      replace hS := Lib.hid hS)
     go_meet
     case rel => exact hS.out
    | some ad =>
     go_wp2_with (
      at_builtin
      refine wpList_app0 rfl (.tmp 17) (.tmp 18) ad rfl rfl rfl (Ints.one _ 0 _ (Nat.zero_le _)) ?_
      intro v9 w9 ho x9 hvb
      obtain ⟨g9, n9, c9, rfl, e0, e1, e2, e3, hS⟩ := main.out v9 w9 _ (by simp) ho (Ext.trans (show Ext w3 _ from qXt) x9)
      clear ho x9 hvb cv0 cv1 cv2 f_cv0 f_cv1 f_cv2
      replace hS := Lib.hid hS)
     go_meet
     case rel => exact hS.out
   ·
    obtain ⟨g2, c2, e2, G2, G2'⟩ := (V.o2.ofNe ht).row ht
    obtain ⟨rfl, rfl, rfl⟩ : p2 = some ⟨g2, 0, none⟩ ∧ n2 = t.length ∧ r2 = c2 := by simp at e2; exact e2
    have O2 := V.o2.ofNe ht
    have hgne : g2 ≠ gv := fun h => V.n2 ht (by rw [h]; rfl)
    have hlt5 : t.length ≤ 4 := by have := hf.out; omega
    replace e2 := Lib.hid e2
    have cv0 := V.c0
    have cv1 := V.c1
    have cv2 := V.c2
    have f_cv0 := V.f0
    have f_cv1 := V.f1
    have f_cv2 := V.f2
    have z_cv := V.lt
    have hm1 : Hid (s ≠ [] → ∀ g, (Value.slice p1 n1 r1).ownBlock = some g → g < g2 ∨ g2 + 1 ≤ g) := by
     refine Lib.hid (fun h g hg => ?_)
     have : g ≠ g2 := fun h2 => V.sep h ht (by rw [hg, h2]; rfl)
     omega
    have hm2 : Hid (s ≠ [] → ∀ g, (Value.slice p1 n1 r1).ownBlock = some g → g ≠ gv) := Lib.hid (fun h g hg h2 => V.n1 h (by rw [hg, h2]))
    have o1 := V.o1
    have hq := Q.lt
    have hv := V.lt
    replace ht := Lib.hid ht
    clear V
    go_wp2_with (
     at_builtin
     refine wpList_app rfl (.tmp 17) (.tmp 18) rfl rfl rfl (O2.ext ((Ext.refl _).alloc _)) (Ints.one _ 0 _ (Nat.zero_le _)) (by simp <;> omega) (by simp <;> omega) ?_
     intro v9 w9 ho hgr hbl hvb
     obtain ⟨g9, n9, c9, rfl, hn9, G9, G9'⟩ := ho.row2 (by simp)
     have B9 := own_or hvb
     simp only [World.size_alloc] at B9
     have K9 : Chg g2 (g2 + 1) w3 w9 := chg_grown hgr
     have cv0 := K9.cell (by omega) cv0
     have cv1 := K9.cell (by omega) cv1
     have cv2 := K9.cell (by omega) cv2
     have f_cv2 := K9.frzO (by omega) hv f_cv2
     replace o1 := o1.chgI K9 hm1.out
     replace Q := Q.chgB K9 (by omega) (fun h => absurd rfl h) (fun h => absurd rfl h)
     replace hr3 := hr3.chgO K9 (by omega)
     have X9 : Rch rb w w9 := Rch.below' X3 K9 (by omega)
     clear hgr hbl hvb K9 X3)
    go_meet
    case rel => exact SAt.put cv0 cv1 cv2 f_cv2 o1 ho.z hm2.out (fun g hg => by have : some g9 = some g := hg; cases this; omega) ⟨hl, by simp; omega⟩ Q (hr3.mono (by omega)) X9 hgv hlt
  ·
   by_cases ht : t = []
   ·
    have hse : s = [] := List.eq_nil_of_length_eq_zero (by have := hf.out; rw [ht] at this; simpa using this.symm)
    obtain ⟨hn2, hr2'⟩ := hN.out hse
    subst hn2
    subst hr2'
    clear hse
    replace ht := Lib.hid ht
    have cv0 := V.c0
    have cv1 := V.c1
    have cv2 := V.c2
    have f_cv0 := V.f0
    have f_cv1 := V.f1
    have f_cv2 := V.f2
    have z_cv := V.lt
    go_wp2_with fail
    go_meet
    case rel => exact SAt.of V Q (hr3.mono (by omega)) X3
   ·
    obtain ⟨g2, c2, e2, G2, G2'⟩ := (V.o2.ofNe ht).row ht
    obtain ⟨rfl, rfl, rfl⟩ : p2 = some ⟨g2, 0, none⟩ ∧ n2 = t.length ∧ r2 = c2 := by simp at e2; exact e2
    have hgne : g2 ≠ gv := fun h => V.n2 ht (by rw [h]; rfl)
    have hlt0 : 0 < t.length := by cases t; exact absurd rfl ht; simp
    have hltI : (0 : Int) < (t.length : Int) := by omega
    replace e2 := Lib.hid e2
    have htH := Lib.hid ht
    clear ht
    have cv0 := V.c0
    have cv1 := V.c1
    have cv2 := V.c2
    have f_cv0 := V.f0
    have f_cv1 := V.f1
    have f_cv2 := V.f2
    have z_cv := V.lt
    go_wp2_with fail
    clear cv0 cv1 f_cv0 f_cv1 f_cv2
    refine wp_region_tail (S := fun w' => w'.cell? ⟨gv, 2, none⟩ = some (.slice (some ⟨g2, 0, none⟩) t.length r2)) (fun i => decide (6 ≤ i)) qKr cv2 (fun hHeld => ?_)
    refine qTk (v := ?_) 0 rfl (.inl ⟨by rfl, ?_⟩) ?_
    rotate_left
    ·
     (intro w hSw; (try dsimp only at hSw); go_simp; try with_reducible rfl)
    try simp only [Act.put, qa, qb, qc, qD, qE, qF]
    refine qTk (v := ?_) 1 rfl (.inl ⟨by rfl, ?_⟩) ?_
    rotate_left
    ·
     (intro w hSw; (try dsimp only at hSw); go_simp; try with_reducible rfl)
    try simp only [Act.put, qa, qb, qc, qD, qE, qF]
    refine qTk (v := ?_) 2 rfl (.inl ⟨by rfl, ?_⟩) ?_
    rotate_left
    ·
     (intro w hSw; (try dsimp only at hSw); go_simp; try with_reducible rfl)
    try simp only [Act.put, qa, qb, qc, qD, qE, qF]
    refine wpTail_one (i := 3) qKr rfl rfl (fun K hK => ?_)
    try simp only [Act.put, qa, qb, qc, qD, qE, qF]
    go_simp
    have EE : Ext w3 (w3.drew.alloc (.cells #[.int .i64 61, .int .i64 (-61), .int .i64 60] 3)) := qXt
    refine hK.out _ _ (EE.cell cv2) (fun hHeld => ?_)
    clear hK K
    try simp only [Act.put, qa, qb, qc, qD, qE, qF]
    refine wpTail_one (i := 4) qKr rfl rfl (fun K hK => ?_)
    try simp only [Act.put, qa, qb, qc, qD, qE, qF]
    go_simp
    refine (oneLit_c _ _ _ rb _ _ hr3.drew (by omega) (by rfl) (by rfl) (by constructor <;> simp) (by first | rfl | simp)).mono ?_
    rintro e w14 ⟨y, rfl, -, hr14, C14⟩
    have X14 := Rch.step (X3.ext EE) C14
    replace V := (V.ext EE).rch C14 (by omega) (by omega)
    replace Q := (Q.ext EE).rch C14 (by omega) (by omega)
    clear C14 EE hr3 X3
    replace cv2 := V.c2
    refine hK.out _ _ cv2 (fun hHeld => ?_)
    clear hK K
    try simp only [Act.put, qa, qb, qc, qD, qE, qF]
    refine qTk (v := ?_) 5 rfl (.inl ⟨by rfl, ?_⟩) ?_
    rotate_left
    ·
     (intro w hSw; (try dsimp only at hSw); go_simp; try with_reducible rfl)
    try simp only [Act.put, qa, qb, qc, qD, qE, qF]
    obtain ⟨A1, A2⟩ := (V.o2.ofNe htH.out).cell 0 hlt0
    refine wpTail_last (i := 6) qKr rfl rfl (fun K hK => ?_)
    try simp only [Act.put, qa, qb, qc, qD, qE, qF]
    go_simp
    refine hK.out _ _ ?_
    clear hK K
    try simp only [Act.put, qa, qb, qc, qD, qE, qF]
    refine wpTail_done qKr ?_ _
    clear hHeld A1 A2 cv2
    replace Q := Q.chgB ((Chg.refl g2 (g2 + 1) w14).setCell (p := ⟨g2, 0, none⟩) (Nat.le_refl _) (Nat.lt_succ_self _) (.int .i64 y)) (by omega) (fun h => absurd rfl h) (fun h => absurd rfl h)
    replace V := V.setT hlt0 y
    replace X14 := X14.set (a := ⟨g2, 0, none⟩) (show w.heap.size ≤ g2 by omega) (.int .i64 y)
    replace hr14 := Rd.set2 (a := ⟨g2, 0, none⟩) (u := .int .i64 y) (show rb < g2 by omega) hr14
    generalize w14.setCell ⟨g2, 0, none⟩ (.int .i64 y) = w15 at *
    repeat go_step
    go_meet
    case rel => exact SAt.of V Q (hr14.mono (by omega)) X14
  ·
   go_wp2_with fail
   go_meet
   case rel => exact SAt.of V Q (hr3.mono (by omega)) X3
 case rest =>
  obtain ⟨b, s, t, p1, p2, n1, r1, n2, r2, c0, c1, c2, o1, o2, ⟨l1, l2⟩, Q, hr, X⟩ := hcut
  have zv : gv < wc.heap.size := qB c0
  have cq0 := Q.c0
  have cq1 := Q.c1
  have cq2 := Q.c2
  have f_cq0 := Q.f0
  have f_cq1 := Q.f1
  have f_cq2 := Q.f2
  have z_cq := Q.lt
  go_wp2_with fail
  refine bodyPost_ret (v := .agg #[.int .i64 b, .slice p1 n1 r1, .slice p2 n2 r2]) (by simp only [results, Try.results78]; go_simp) rfl ?_
  have K := Chg.three (lo := w.heap.size) wc (.int .i64 b) (.slice p1 n1 r1) (.slice p2 n2 r2)
  replace o1 := o1.chg K (Nat.le_refl _)
  replace o2 := o2.chg K (Nat.le_refl _)
  replace X := ((X.set (a := ⟨w.heap.size, 0, none⟩) (show w.heap.size ≤ w.heap.size by omega) (.int .i64 b)).set (a := ⟨w.heap.size, 1, none⟩) (show w.heap.size ≤ w.heap.size by omega) (.slice p1 n1 r1)).set (a := ⟨w.heap.size, 2, none⟩) (show w.heap.size ≤ w.heap.size by omega) (.slice p2 n2 r2)
  replace hr := Rd.set2 (a := ⟨w.heap.size, 2, none⟩) (u := .slice p2 n2 r2) (show rb < w.heap.size by omega) (Rd.set2 (a := ⟨w.heap.size, 1, none⟩) (u := .slice p1 n1 r1) (show rb < w.heap.size by omega) (Rd.set2 (a := ⟨w.heap.size, 0, none⟩) (u := .int .i64 b) (show rb < w.heap.size by omega) hr))
  clear K
  generalize ((wc.setCell ⟨w.heap.size, 0, none⟩ (.int .i64 b)).setCell ⟨w.heap.size, 1, none⟩ (.slice p1 n1 r1)).setCell ⟨w.heap.size, 2, none⟩ (.slice p2 n2 r2) = w30 at *
  exact ⟨b, s, t, p1, p2, n1, r1, n2, r2, rfl, (o1.ints (by omega)).lower (by omega), (o2.ints (by omega)).lower (by omega), l1, l2, hr.mono (by omega), X⟩

end Go.Proofs.Ytpgkhjmboiepcaa

/- What the arguments of a law read as, when they are opened: ints, lists of ints, views. -/
namespace Go.Proofs.Ytpgkhjmboiepcaa
open Go.ChangeShapes Go.WideShapes Go.ChangeAt Go.RowKit Go.Joins
set_option linter.unusedVariables false
set_option maxRecDepth 100000

theorem own : ownKnob Try.prog.godebug = none := by kernel_rfl
theorem laidOut : laidOutB Try.prog = true := by kernel_rfl
theorem cellsInt : Try.prog.cellsOf 3 = 1 := by kernel_rfl

/-- a slice of ints that came in -/
def RawIn (w : World) (v : Value) (xs : List Int) : Prop := Raw w v xs ∧ xs.length ≤ maxLen

section
variable {H : Type} {enc : TypeId × Value → H} {w : World} {base : Nat} {spare : Nat → Bool} {held : Bool} {fuel : Nat}

theorem open_rawInts {v : Value} {x : DataW H × List MemPlace} (hf : DataW.trod enc Try.prog w base spare held fuel 23 [v] = some x) : ∃ xs, RawIn w v xs := by
  rcases open_ints Try.underlying23 Try.underlying3 cellsInt hf with ⟨hcs, _⟩ | ⟨a, l, c, zs, hcs, _, hl, hm, hz, _, hcell, hwz⟩
  · simp at hcs; subst hcs
    exact ⟨[], ⟨none, 0, rfl, fun _ => rfl, fun i hi => absurd hi (by simp)⟩, by simp⟩
  · simp at hcs; subst hcs
    have hlen : (zs.take l).length = l := by rw [List.length_take, hz]; split <;> omega
    refine ⟨zs.take l, ⟨some a, c, by rw [hlen], (fun h => by cases h), fun i hi => ?_⟩, by rw [hlen]; omega⟩
    have hi' : i < zs.length := by rw [List.length_take] at hi; omega
    have hc := hcell i hi'
    obtain ⟨b, off, spot⟩ := a
    have h0 := hcell 0 (by omega)
    have hspot : spot = none := by simpa [Addr.add] using World.cell?_spot h0
    subst hspot
    refine ⟨b, off, rfl, ?_⟩
    have e : (⟨b, off, none⟩ : Addr).add i = ⟨b, off + i, none⟩ := by unfold Addr.add; split <;> simp_all
    rw [e] at hc
    rw [hc]
    have hil : i < l := by rw [hlen] at hi; exact hi
    simp [hil]

theorem open_rawInt {v : Value} {x : DataW H × List MemPlace} (hf : DataW.trod enc Try.prog w base spare held fuel 3 [v] = some x) : ∃ n, v = .int .i64 n ∧ (Lit.int .i64 n).wf = true := by
  obtain ⟨n, hcs, _, hw⟩ := DataW.trod_int Try.underlying3 hf
  simp at hcs; exact ⟨n, hcs, hw⟩

/-- a view that came in -/
def ViewIn (w : World) (v : Value) (b : Int) (shape strides : List Int) : Prop := ∃ a cap a2 cap2, v = .agg #[.int .i64 b, .slice a shape.length cap, .slice a2 strides.length cap2] ∧ RawIn w (.slice a shape.length cap) shape ∧ RawIn w (.slice a2 strides.length cap2) strides

theorem RawIn.form {v : Value} {xs : List Int} (h : RawIn w v xs) : ∃ a cap, v = .slice a xs.length cap := by
  obtain ⟨⟨a, cap, hv, _⟩, _⟩ := h; exact ⟨a, cap, hv⟩

end

end Go.Proofs.Ytpgkhjmboiepcaa

/- What the argument of a law on drawn data reads as, when it is opened: a slice of bytes. -/
namespace Go.Proofs.Ytpgkhjmboiepcaa
open Go.ChangeShapes Go.WideShapes Go.ChangeAt Go.RowKit Go.Joins
set_option linter.unusedVariables false

theorem bys_of_cells {W : World} {x : Addr} {n cap : Nat} {zs : List Int} (hl : n ≤ cap) (hm : cap ≤ maxLen) (hz : zs.length = cap) (hcell : ∀ i, i < zs.length → W.cell? (x.add i) = some (.int .u8 (zs.getD i 0))) (hwz : ∀ m ∈ zs, (Lit.int .u8 m).wf = true) : BysIn W (some x) n cap := by
  refine ⟨hl, hm, fun i hi => ?_⟩
  obtain ⟨b, off, spot⟩ := x
  have h0 := hcell 0 (by omega)
  have hspot : spot = none := by simpa [Addr.add] using World.cell?_spot h0
  subst hspot
  have hc := hcell i (by omega)
  have e : (⟨b, off, none⟩ : Addr).add i = ⟨b, off + i, none⟩ := by unfold Addr.add; split <;> simp_all
  rw [e] at hc
  have hw := hwz (zs.getD i 0) (by simp [show i < zs.length by omega])
  refine ⟨b, off, _, rfl, hc, ?_⟩
  have := bounds_u8 hw
  omega

end Go.Proofs.Ytpgkhjmboiepcaa

/- Walks: drawn arguments: a view; a view and a size. -/
namespace Go.Proofs.Ytpgkhjmboiepcaa
open Go.RowKit
set_option linter.unusedVariables false
set_option maxRecDepth 100000


def DView (w w' : World) (b : Int) (s t : List Int) (p1 p2 : Option Addr) (n1 r1 n2 r2 : Nat) : Prop := Ints w' w.heap.size (.slice p1 n1 r1) s ∧ Ints w' w.heap.size (.slice p2 n2 r2) t ∧ s.length ≤ 4 ∧ t.length ≤ 5 ∧ Ext w w'
def PDraw (w : World) (e : Ending) (w' : World) : Prop := ∃ (b : Int) (s t : List Int) (p1 p2 : Option Addr) (n1 r1 n2 r2 : Nat), e = .returned (.agg #[.int .i64 b, .slice p1 n1 r1, .slice p2 n2 r2]) ∧ DView w w' b s t p1 p2 n1 r1 n2 r2
def PDrawI (lo hi : Int) (w : World) (e : Ending) (w' : World) : Prop := ∃ (b : Int) (s t : List Int) (p1 p2 : Option Addr) (n1 r1 n2 r2 : Nat) (x : Int), e = .returned (.tuple #[.agg #[.int .i64 b, .slice p1 n1 r1, .slice p2 n2 r2], .int .i64 x]) ∧ (lo ≤ x ∧ x ≤ hi) ∧ DView w w' b s t p1 p2 n1 r1 n2 r2
end Go.Proofs.Ytpgkhjmboiepcaa

/- Walks: drawn memories, views of memories, values. -/
namespace Go.Proofs.Ytpgkhjmboiepcaa
open Go.RowKit
set_option linter.unusedVariables false
set_option maxRecDepth 100000

theorem Ints.len_eq {w : World} {lo : Nat} {p : Option Addr} {n r : Nat} {s : List Int} (h : Ints w lo (.slice p n r) s) : n = s.length := by
  obtain ⟨a, c, e⟩ := h.form; simp at e; exact e.2.1
def PMem (rb k : Nat) (w : World) (e : Ending) (w' : World) : Prop := ∃ v xs, e = .returned v ∧ OwnI w' w.heap.size v xs ∧ xs.length ≤ 60 ∧ Rd w' rb k ∧ Chg rb (rb + 1) w w'
set_option maxHeartbeats 3200000 in
theorem someMemory_c (rb k : Nat) (w : World) (hr : Rd w rb k) (hk : k ≤ 700000) :
    Calls Try.prog 77 #[.pointer (some ⟨rb, 0, none⟩)] w (PMem rb (k + 70) w) := by
  have hlt := hr.lt
  go_enter Try.func77, Try.ntmps77
  go_wp2_with fail
  refine (oneLit_c _ _ _ rb _ _ (by repeat (first | (with_reducible exact hr) | (with_reducible apply Rd.drewN) | (with_reducible apply Rd.drew) | (with_reducible apply Rd.alloc) | ((with_reducible apply Rd.set2); (· first | assumption | (simp; omega) | (simp; done) | omega)))) (by omega) (by rfl) (by rfl) (by constructor <;> simp) (by first | rfl | simp)).mono ?_
  rintro e w1 ⟨n, rfl, hn, hr1, hC1⟩
  have hn' : 5 ≤ n ∧ n ≤ 60 := by simp [litL] at hn; omega
  clear hn
  obtain ⟨m, rfl⟩ : ∃ m : Nat, n = m := ⟨n.toNat, by omega⟩
  have ho1 : OwnI w1 w.heap.size (.slice (some ⟨w.heap.size, 0, none⟩) 0 0) [] := ((OwnI.lit0 w w.heap.size (Nat.le_refl _)).ext qXo).chg hC1 hlt
  have hX1 : Chg rb (rb + 1) w w1 := Chg.trans (Chg.of_ext qXo) hC1
  clear hC1
  go_wp2_with fail
  go_loopw [3, 4] (fun v i wr => ∃ (q m : Nat) (xs : List Int), i = .int .i64 m ∧ (xs.length + m ≤ 60 ∧ 1 ≤ xs.length + m) ∧ OwnI wr w.heap.size v xs ∧ Rd wr rb q ∧ q + m ≤ k + 62 ∧ Chg rb (rb + 1) w wr) (fun _ i _ => (intOf i).toNat)
  case atStart => exact ⟨k + 1, m, [], rfl, by simp; omega, ho1, hr1, by omega, hX1⟩
  case round =>
    obtain ⟨q, m, xs, rfl, hl, ho, hr, hq, hX⟩ := hrel
    have hz : w.heap.size ≤ wr.heap.size := hX.size
    cases m with
    | succ m =>
      have hI : (0 : Int) < ((m + 1 : Nat) : Int) := by omega
      have hI2 : ((m + 1 : Nat) : Int) - 1 = (m : Int) := by omega
      go_wp2_with fail
      refine (pick1_c _ rb _ _ hr (by omega) (by omega)).mono ?_
      rintro e w2 ⟨x, rfl, hx, hr2, hC2⟩
      have ho2 := ho.chg hC2 hlt
      have hX2 : Chg rb (rb + 1) w w2 := hX.trans hC2
      have hz2 : w.heap.size ≤ w2.heap.size := hX2.size
      clear hC2 hX ho hr hx
      replace ho2 := Lib.hid ho2
      replace hX2 := Lib.hid hX2
      replace hr2 := Lib.hid hr2
      go_wp2_with (at_builtin; refine wpList_app rfl (.tmp 13) (.tmp 16) rfl rfl rfl (ho2.out.ext ((Ext.refl _).alloc _)) (Ints.one _ 0 _ (Nat.zero_le _)) (by simp only [List.length_cons, List.length_nil]; omega) (by simp; omega) ?_; intro v' w3 ho3 _ hb3 _; replace ho3 := Lib.hid ho3)
      go_roundw
      case rel => exact ⟨q + 1, m, xs ++ [x], by first | rfl | go_num, by simp; omega, ho3.out, (hr2.out.alloc _).below hb3 hlt, by omega, Rch.below (hX2.out.ext qXo) hb3⟩
      case measure => simp [intOf]
    | zero =>
      have hne : xs ≠ [] := by intro h; subst h; simp at hl
      obtain ⟨g, n2, c, rfl, hn2, G, G'⟩ := ho.row2 hne
      have hlx : 0 < xs.length := by omega
      have hnI : Hid ((0 : Int) < (n2 : Int)) := Lib.hid (by have := hn2.out; omega)
      replace hne := Lib.hid hne
      go_wp2_with fail
      refine (pick1_c _ rb _ _ hr (by omega) (by omega)).mono ?_
      rintro e w2 ⟨x, rfl, hx, hr2, hC2⟩
      have ho2 := ho.chg hC2 hlt
      have hX2 : Chg rb (rb + 1) w w2 := hX.trans hC2
      clear hC2 hX ho hr hx
      by_cases hx0 : x = 0
      · subst hx0
        go_wp2_with fail
        refine (oneLit_c _ _ _ rb _ _ (by exact hr2) (by omega) (by rfl) (by rfl) (by constructor <;> simp) (by first | rfl | simp)).mono ?_
        rintro e w3 ⟨y, rfl, hy, hr3, hC3⟩
        have ho3 := (ho2.ext qXo).chg hC3 hlt
        have hX3 : Chg rb (rb + 1) w w3 := (hX2.ext qXo).trans hC3
        have hz3 := hX3.size
        clear hC3 hX2 ho2 hr2 hy
        obtain ⟨A1, A2⟩ := ho3.cell 0 hlx
        have hnI' := hnI.out
        replace ho3 := Lib.hid ho3
        go_wp2_with fail
        go_ret
        exact ⟨_, xs.set 0 y, rfl, ho3.out.set 0 y hlx, by simp; omega, (Rd.set2 (by simp; omega) hr3).mono (by omega), Rch.set hX3 (by simp; omega) _⟩
      · have hxe : (x == 0) = false := by simpa using hx0
        replace hx0 := Lib.hid hx0
        replace ho2 := Lib.hid ho2
        go_wp2_with fail
        go_ret
        exact ⟨_, xs, rfl, ho2.out, by omega, hr2.mono (by omega), hX2⟩

/-- a memory and a view are drawn -/
def PMV (lo : Nat) (e : Ending) (w' : World) : Prop := ∃ (mem : List Int) (p0 : Option Addr) (n0 r0 : Nat) (b : Int) (s t : List Int) (p1 p2 : Option Addr) (n1 r1 n2 r2 : Nat), e = .returned (.tuple #[.slice p0 n0 r0, .agg #[.int .i64 b, .slice p1 n1 r1, .slice p2 n2 r2]]) ∧ mem.length ≤ 60 ∧
  Ints w' lo (.slice p0 n0 r0) mem ∧ Ints w' lo (.slice p1 n1 r1) s ∧ Ints w' lo (.slice p2 n2 r2) t ∧ s.length ≤ 4 ∧ t.length ≤ 5
set_option maxHeartbeats 3200000 in
theorem memView_c (rb k : Nat) (w : World) (hr : Rd w rb k) (hk : k ≤ 600000) :
    Calls Try.prog 37 #[.pointer (some ⟨rb, 0, none⟩)] w (fun e w' => PMV w.heap.size e w' ∧ Rd w' rb (k + 280) ∧ Chg rb (rb + 1) w w') := by
  have hlt := hr.lt
  go_enter Try.func37, Try.ntmps37
  go_wp2_with fail
  refine (someMemory_c rb k _ (hr.alloc _) (by omega)).mono ?_
  rintro e w1 ⟨v, mem, rfl, o0, hml, hr1, C1⟩
  have i0 := (o0.ints (by omega)).lower (show w.heap.size + 1 ≤ _ by simp)
  clear o0
  obtain ⟨p0, n0, r0, rfl⟩ := i0.any
  have E0 : Ext w (w.alloc (.cells #[.int .i64 0, .slice none 0 0, .slice none 0 0] 25)) := qXt
  have X1 : Chg rb (rb + 1) w w1 := (Chg.of_ext E0).trans C1
  have q0 : w1.cell? ⟨w.heap.size, 0, none⟩ = some (.int .i64 0) := C1.cell (.inr (by omega)) (by simp)
  have q1 : w1.cell? ⟨w.heap.size, 1, none⟩ = some (.slice none 0 0) := C1.cell (.inr (by omega)) (by simp)
  have q2 : w1.cell? ⟨w.heap.size, 2, none⟩ = some (.slice none 0 0) := C1.cell (.inr (by omega)) (by simp)
  have f0 : w1.frozen? ⟨w.heap.size, 0, none⟩ = false := C1.frzO (.inr (by omega)) (by simp) (by simp)
  have f1 : w1.frozen? ⟨w.heap.size, 1, none⟩ = false := C1.frzO (.inr (by omega)) (by simp) (by simp)
  have f2 : w1.frozen? ⟨w.heap.size, 2, none⟩ = false := C1.frzO (.inr (by omega)) (by simp) (by simp)
  have z1 : w.heap.size < w1.heap.size := qB q0
  clear C1 E0 hr
  go_wp2_with fail
  refine (someView_c _ _ _ hr1 (by omega)).mono ?_
  rintro e w2 ⟨b, s, t, p1, p2, n1, r1, n2, r2, rfl, i1, i2, l1, l2, hr2, C⟩
  have X2 : Chg rb (rb + 1) w w2 := X1.trans C
  replace i0 := i0.chg C (by omega)
  replace q0 := C.cell (.inr (by omega)) q0
  replace q1 := C.cell (.inr (by omega)) q1
  replace q2 := C.cell (.inr (by omega)) q2
  replace f0 := C.frzO (.inr (by omega)) (by omega) f0
  replace f1 := C.frzO (.inr (by omega)) (by omega) f1
  replace f2 := C.frzO (.inr (by omega)) (by omega) f2
  have z2 : w.heap.size < w2.heap.size := qB q0
  have z12 := C.size
  clear C X1 hr1
  go_wp2_with fail
  refine bodyPost_ret (v := .tuple #[.slice p0 n0 r0, .agg #[.int .i64 b, .slice p1 n1 r1, .slice p2 n2 r2]]) (by simp only [results, Try.results37]; go_simp) rfl ?_
  have K := Chg.three (lo := w.heap.size) w2 (.int .i64 b) (.slice p1 n1 r1) (.slice p2 n2 r2)
  replace i1 := i1.chg K (by omega)
  replace i2 := i2.chg K (by omega)
  exact ⟨⟨mem, p0, n0, r0, b, s, t, p1, p2, n1, r1, n2, r2, rfl, hml, (i0.chg K (by omega)).lower (by omega), i1.lower (by omega), i2.lower (by omega), l1, l2⟩, (Rd.set2 (by simp; omega) (Rd.set2 (by simp; omega) (Rd.set2 (by simp; omega) hr2))).mono (by omega), Rch.set (Rch.set (Rch.set X2 (by simp) _) (by simp) _) (by simp) _⟩
def PMemView (w : World) (e : Ending) (w' : World) : Prop := PMV w.heap.size e w' ∧ Ext w w'

end Go.Proofs.Ytpgkhjmboiepcaa

/- Helpers of walks: capacities, two rows that grow. -/
namespace Go.Proofs.Ytpgkhjmboiepcaa
open Go.RowKit
set_option linter.unusedVariables false

theorem Ints.capLe {w : World} {lo : Nat} {a : Option Addr} {n c : Nat} {xs : List Int} (h : Ints w lo (.slice a n c) xs) : n ≤ c ∧ c ≤ maxLen := by
  obtain ⟨a', c', e, h1, h2, _⟩ := h
  cases e
  exact ⟨h1, h2⟩
theorem PViewB.two {w w' : World} {B : Nat} {b : Int} {s t : List Int} {v1 v2 : Value} (T : Two B w' v1 v2 s t) (hB : w.heap.size ≤ B) (hs : s.length ≤ 1000) (ht : t.length ≤ 1000) (hx : Ext w w') :
    PViewB w b s t true (.returned (.tuple #[.agg #[.int .i64 b, v1, v2], .bool true])) w' :=
  ⟨_, _, rfl, (T.o1.ints (by omega)).lower hB, (T.o2.ints (by omega)).lower hB, (T.o1.lower hB).z, (T.o2.lower hB).z,
    (fun n1 n2 h => by obtain ⟨g, _, h1, _⟩ := (T.o1).row n1; rw [h1] at h; exact T.sep g (by rw [h1]; rfl) (h ▸ rfl)), hx⟩
theorem pi_eq {w w0 : World} {xs ys : List Int} {f : Nat} {args : Array Value} (he : xs = ys) (h : Calls Try.prog f args w (PInts w0 xs)) : Calls Try.prog f args w (PInts w0 ys) := he ▸ h
theorem pv_eq {w w0 : World} {x : VBool} {B : Int} {S T : List Int} {o : Bool} {f : Nat} {args : Array Value} (he : x = (B, S, T, o)) (h : Calls Try.prog f args w (PVB w0 x)) : Calls Try.prog f args w (PViewB w0 B S T o) := by subst he; exact h
end Go.Proofs.Ytpgkhjmboiepcaa

/- Helpers of walks: appends to a literal without room, whatever is appended. -/
namespace Go.Proofs.Ytpgkhjmboiepcaa
open Go.RowKit
set_option linter.unusedVariables false
theorem Chg.setNew {lo hi : Nat} {a w : World} {p : Addr} (h : Chg lo hi a w) (hp : a.heap.size ≤ p.block) (u : Value) : Chg lo hi a (w.setCell p u) :=
  ⟨h.os, h.tape, h.output, by have := h.size; simpa using this, fun k hk hd => (Below.heap_setCell _ _ _ _ (by omega)).trans (h.block k hk hd)⟩
section
variable {w : World} {src : Value} {ys : List Int} {lo B l : Nat}
theorem run_app0O (ty : TypeId) (O : OwnI w B (.slice (some ⟨l, 0, none⟩) 0 0) []) (hB : B ≤ w.heap.size) (hs : Ints w lo src ys) :
    ∃ g r w', (Builtin.append_ #[23, 23] ty #[.slice (some ⟨l, 0, none⟩) 0 0, src]).run Try.prog w = .ok (.slice (some ⟨g, 0, none⟩) ys.length r) w' ∧ OwnI w' B (.slice (some ⟨g, 0, none⟩) ys.length r) ys ∧ Ext w w' ∧ (g = l ∨ w.heap.size ≤ g) ∧ g < w'.heap.size ∧ (ys = [] → r = 0) := by
  obtain ⟨v', w', hr, h1, h2, h3⟩ := run_app0 ⟨l, 0, none⟩ ty hs
  by_cases he : ys = []
  · subst he
    have hs' := hs
    obtain ⟨i0, hi, hz0, hz1, hz2⟩ := info_parts infoInt
    obtain ⟨a, cap, rfl, h1, h2, ⟨h3', h3⟩, h4⟩ := hs
    refine ⟨l, 0, w, ?_, O, Ext.refl _, .inl rfl, (own_lt O rfl).2, fun _ => rfl⟩
    cases a with
    | none => simp [Builtin.append_, run_underlying Try.underlying23, sizeOf, typeInfo, hi, Builtin.lenOf, Builtin.firstCells, storeCells]
    | some x => simp [Builtin.append_, run_underlying Try.underlying23, sizeOf, typeInfo, hi, Builtin.lenOf, Builtin.firstCells, storeCells, loadCells, loadCellsFrom]
  · have O' := (h1.ofNe he)
    obtain ⟨g, r, rfl, hg, hg'⟩ := O'.row he
    exact ⟨g, r, w', hr, O'.lower hB, h2, .inr hg, hg', fun h => absurd h he⟩

theorem step_app0O {ops : Array Oper} {o : Oper} {a : Act} {K : Act → World → Prop} {Q : Exit → Act → World → Prop} {F : Prop} (hgd : o.guard = none) (s x : Operand)
    (ho : o.op = .call { callee := .builtin .append, args := #[s, x], argTypes := #[23, 23] })
    (hs : a.eval s = .slice (some ⟨l, 0, none⟩) 0 0) (hx : a.eval x = src) (O : OwnI w B (.slice (some ⟨l, 0, none⟩) 0 0) []) (hB : B ≤ w.heap.size) (hsrc : Ints w lo src ys)
    (hK : ∀ g r w', OwnI w' B (.slice (some ⟨g, 0, none⟩) ys.length r) ys → Ext w w' → (g = l ∨ w.heap.size ≤ g) → g < w'.heap.size → K (a.put o.dst (.slice (some ⟨g, 0, none⟩) ys.length r)) w') :
    if Region.wanted o (yielded ops a.tmps) = true then Oper.wp Try.prog o a w K Q else F := by
  have hw : Region.wanted o (yielded ops a.tmps) = true := by simp [Region.wanted, hgd]
  rw [if_pos hw]
  obtain ⟨g, r, w', hr, h1, h2, h3, h4, h5⟩ := run_app0O o.type O hB hsrc
  unfold Oper.wp execOp
  simp only [ho, resolve, invoke, builtin, Sem.run_bind, Sem.run_pure, Result.andThen_ok, List.map_toArray, List.map_cons, List.map_nil, hs, hx, hr]
  exact hK g r w' h1 h2 h3 h4
theorem wpList_app0O {ops : Array Oper} {rest : List Oper} {o : Oper} {a : Act} {Q : Exit → Act → World → Prop} (hgd : o.guard = none) (s x : Operand)
    (ho : o.op = .call { callee := .builtin .append, args := #[s, x], argTypes := #[23, 23] })
    (hs : a.eval s = .slice (some ⟨l, 0, none⟩) 0 0) (hx : a.eval x = src) (O : OwnI w B (.slice (some ⟨l, 0, none⟩) 0 0) []) (hB : B ≤ w.heap.size) (hsrc : Ints w lo src ys)
    (hK : ∀ g r w', OwnI w' B (.slice (some ⟨g, 0, none⟩) ys.length r) ys → Ext w w' → (g = l ∨ w.heap.size ≤ g) → g < w'.heap.size → wpList Try.prog ops Q rest (a.put o.dst (.slice (some ⟨g, 0, none⟩) ys.length r)) w') : wpList Try.prog ops Q (o :: rest) a w := by
  refine wpList_plain hgd fun K hK' => ?_
  obtain ⟨g, r, w', hr, h1, h2, h3, h4, h5⟩ := run_app0O o.type O hB hsrc
  unfold Oper.wp execOp
  simp only [ho, resolve, invoke, builtin, Sem.run_bind, Sem.run_pure, Result.andThen_ok, List.map_toArray, List.map_cons, List.map_nil, hs, hx, hr]
  exact hK' _ _ (hK g r w' h1 h2 h3 h4)
theorem wpList_app0C {ops : Array Oper} {rest : List Oper} {o : Oper} {a : Act} {Q : Exit → Act → World → Prop} (hgd : o.guard = none) (s x : Operand)
    (ho : o.op = .call { callee := .builtin .append, args := #[s, x], argTypes := #[23, 23] })
    (hs : a.eval s = .slice (some ⟨l, 0, none⟩) 0 0) (hx : a.eval x = src) (O : OwnI w B (.slice (some ⟨l, 0, none⟩) 0 0) []) (hB : B ≤ w.heap.size) (hsrc : Ints w lo src ys)
    (hK : ∀ g r w', OwnI w' B (.slice (some ⟨g, 0, none⟩) ys.length r) ys → Ext w w' → (g = l ∨ w.heap.size ≤ g) → g < w'.heap.size → Hid (ys = [] → r = 0) → wpList Try.prog ops Q rest (a.put o.dst (.slice (some ⟨g, 0, none⟩) ys.length r)) w') : wpList Try.prog ops Q (o :: rest) a w := by
  refine wpList_plain hgd fun K hK' => ?_
  obtain ⟨g, r, w', hr, h1, h2, h3, h4, h5⟩ := run_app0O o.type O hB hsrc
  unfold Oper.wp execOp
  simp only [ho, resolve, invoke, builtin, Sem.run_bind, Sem.run_pure, Result.andThen_ok, List.map_toArray, List.map_cons, List.map_nil, hs, hx, hr]
  exact hK' _ _ (hK g r w' h1 h2 h3 h4 (Lib.hid h5))
end
/-- a call hands back a row of its own -/
def PIntsO (w : World) (xs : List Int) (e : Ending) (w' : World) : Prop := ∃ g r, e = .returned (.slice (some ⟨g, 0, none⟩) xs.length r) ∧ OwnI w' w.heap.size (.slice (some ⟨g, 0, none⟩) xs.length r) xs ∧ w.heap.size ≤ g ∧ g < w'.heap.size ∧ Ext w w'
/-- a call hands back a row of its own, without room where it is empty -/
def PIntsC (w : World) (xs : List Int) (e : Ending) (w' : World) : Prop := ∃ g r, e = .returned (.slice (some ⟨g, 0, none⟩) xs.length r) ∧ OwnI w' w.heap.size (.slice (some ⟨g, 0, none⟩) xs.length r) xs ∧ w.heap.size ≤ g ∧ g < w'.heap.size ∧ Hid (xs = [] → r = 0) ∧ Ext w w'
theorem PIntsC.o {w w' : World} {xs : List Int} {e : Ending} (h : PIntsC w xs e w') : PIntsO w xs e w' := by obtain ⟨g, r, h1, h2, h3, h4, -, h5⟩ := h; exact ⟨g, r, h1, h2, h3, h4, h5⟩
/-- an empty slice has no room -/
def CapZ (v : Value) (xs : List Int) : Prop := Hid (xs = [] → ∃ a, v = .slice a 0 0)
theorem CapZ.row {g r n : Nat} {ys xs : List Int} (hz : Hid (ys = [] → r = 0)) (hl : xs.length = ys.length) (hn : n = ys.length) : CapZ (.slice (some ⟨g, 0, none⟩) n r) xs :=
  Lib.hid fun h => by
    subst h
    have hy : ys = [] := List.eq_nil_of_length_eq_zero hl.symm
    rw [hn, hz.out hy, hy]
    exact ⟨_, rfl⟩
theorem CapZ.nil (xs : List Int) : CapZ (.slice none 0 0) xs := Lib.hid fun _ => ⟨_, rfl⟩
theorem CapZ.same {g n : Nat} {xs : List Int} (hn : n = xs.length) : CapZ (.slice (some ⟨g, 0, none⟩) n n) xs := Lib.hid fun h => by subst h; subst hn; exact ⟨_, rfl⟩
/-- a call hands back a new slice, without room where it is empty -/
def PIntsZ (w : World) (xs : List Int) (e : Ending) (w' : World) : Prop := ∃ v, e = .returned v ∧ Ints w' w.heap.size v xs ∧ OwnZ w' w.heap.size v xs ∧ CapZ v xs ∧ Ext w w'
/-- a call hands back a new slice, without room where it is empty, and whether that is possible -/
def PIntsBC (w : World) (xs : List Int) (b : Bool) (e : Ending) (w' : World) : Prop := ∃ v, e = .returned (.tuple #[v, .bool b]) ∧ Ints w' w.heap.size v xs ∧ OwnZ w' w.heap.size v xs ∧ CapZ v xs ∧ Ext w w'
theorem PIntsBC.nil {w w' : World} (h : Ext w w') : PIntsBC w [] false (.returned (.tuple #[.slice none 0 0, .bool false])) w' :=
  ⟨_, rfl, Ints.nil _ _ _ _ (by simp) (fun _ => rfl), .inl ⟨rfl, none, 0, rfl, by simp, fun _ => rfl⟩, CapZ.nil _, h⟩
end Go.Proofs.Ytpgkhjmboiepcaa

/- Walks: copies that are rows. -/
namespace Go.Proofs.Ytpgkhjmboiepcaa
open Go.RowKit
set_option linter.unusedVariables false
set_option maxRecDepth 100000

set_option maxHeartbeats 1600000 in
theorem copyIntsC_c (v3 : Value) (u : List Int) (w : World) (l3 : Nat) (h3 : Ints w l3 v3 u) :
    Calls Try.prog 42 #[v3] w (PIntsC w u) := by
  obtain ⟨p2, c2, rfl⟩ := h3.form
  go_enter Try.func42, Try.ntmps42
  have BL6 : Ext w w := Ext.refl _
  have hln1 : u.length ≤ 4194304 := (h3).len
  go_wp2_with (at_builtin; refine wpList_app0C rfl (.tmp 3) (.tmp 4) rfl rfl rfl (OwnI.lit0 (w) w.heap.size (by simp)) (by simp) (h3.ext qXt) ?_)
  intro gr3 rr4 w1 O2 xw1 hg7 Ggr3' czgr3
  replace xw1 : Ext w w1 := Ext.trans qXt xw1
  have Ggr3 : w.heap.size ≤ gr3 := by (try simp only [World.size_alloc, World.size_drew] at hg7); omega
  clear hg7
  have Lw1 : Ext w w1 := Ext.trans qXt xw1
  have Xw1 : Ext w w1 := Lw1
  have s_w1 : w.heap.size ≤ w1.heap.size := Xw1.size
  have BL6_w1 : Ext w w1 := BL6.trans Lw1
  clear xw1
  go_wp2_with fail
  go_ret
  exact ⟨_, _, rfl, O2.lower (by omega), by omega, Ggr3', czgr3, Xw1⟩

set_option maxHeartbeats 1600000 in
theorem copyIntsO_c (v3 : Value) (u : List Int) (w : World) (l3 : Nat) (h3 : Ints w l3 v3 u) :
    Calls Try.prog 42 #[v3] w (PIntsO w u) :=
  (copyIntsC_c v3 u w l3 h3).mono fun _ _ h => h.o


end Go.Proofs.Ytpgkhjmboiepcaa

/- Walks: a tensor of a shape is drawn. -/
namespace Go.Proofs.Ytpgkhjmboiepcaa
open Go.RowKit
set_option linter.unusedVariables false
set_option maxRecDepth 100000

/-- a tensor of the shape s is drawn -/
def PTenF (rb q : Nat) (s : List Int) (w : World) (e : Ending) (w' : World) : Prop := ∃ (gu ru : Nat) (pv : Option Addr) (cv : Nat) (xs : List Int) (m : Nat), e = .returned (.agg #[.slice (some ⟨gu, 0, none⟩) s.length ru, .slice pv xs.length cv]) ∧
  OwnI w' w.heap.size (.slice (some ⟨gu, 0, none⟩) s.length ru) s ∧ (w.heap.size ≤ gu ∧ gu < m) ∧ OwnI w' m (.slice pv xs.length cv) xs ∧ xs.length ≤ 60 ∧ Rd w' rb q ∧ Chg rb (rb + 1) w w'
set_option maxHeartbeats 6400000 in
theorem tensorFor_c (s : List Int) (sv : Value) (rb k : Nat) (w : World) (l1 : Nat) (hr : Rd w rb k) (hk : k ≤ 800000) (h1 : Ints w l1 sv s) (hl : rb < l1) (hc : countL s ≤ 60) :
    Calls Try.prog 116 #[.pointer (some ⟨rb, 0, none⟩), sv] w (PTenF rb (k + 70) s w) := by
  have hlt := hr.lt
  have hsl := h1.len
  obtain ⟨p1, c1, rfl⟩ := h1.form
  go_enter Try.func116, Try.ntmps116
  go_wp2_with fail
  generalize hW1 : w.alloc (.cells #[.slice none 0 0, .slice none 0 0] 29) = w1 at *
  have Lw1 : Ext w w1 := by subst hW1; exact qXt
  have Xw1 : Rch rb w w1 := Rch.ext (Rch.refl rb w) Lw1
  replace hr := hr.ext Lw1
  have q0 : w1.cell? ⟨w.heap.size, 0, none⟩ = some (.slice none 0 0) := by subst hW1; exact qCl
  have q1 : w1.cell? ⟨w.heap.size, 1, none⟩ = some (.slice none 0 0) := by subst hW1; exact qCl
  have f_q0 : w1.frozen? ⟨w.heap.size, 0, none⟩ = false := by subst hW1; exact qFz
  have f_q1 : w1.frozen? ⟨w.heap.size, 1, none⟩ = false := by subst hW1; exact qFz
  have z_q : w.heap.size < w1.heap.size := qB q0
  replace h1 := h1.ext Lw1
  have s_w1 : w.heap.size ≤ w1.heap.size := Xw1.size
  clear hW1
  refine (copyIntsO_c (.slice p1 s.length c1) s _ l1 (h1.ext qXt)).mono ?_
  rintro e w2 ⟨gu, ru, rfl, O1, G1, G2, xw2⟩
  have Lw2 : Ext w1 w2 := Ext.trans qXt xw2
  have Xw2 : Rch rb w w2 := Rch.ext Xw1 Lw2
  replace hr := hr.ext Lw2
  replace q0 := Lw2.cell q0
  replace q1 := Lw2.cell q1
  replace f_q0 := Lw2.frz z_q f_q0
  replace f_q1 := Lw2.frz z_q f_q1
  have z_q : w.heap.size < w2.heap.size := qB q0
  replace h1 := h1.ext Lw2
  have s_w2 : w.heap.size ≤ w2.heap.size := Xw2.size
  clear xw2
  go_wp2_with fail
  generalize hW2 : w2.alloc (.cells #[.slice (some ⟨gu, 0, none⟩) s.length ru, .slice none 0 0] 29) = w3 at *
  have Lw3 : Ext w2 w3 := by subst hW2; exact qXt
  have Xw3 : Rch rb w w3 := Rch.ext Xw2 Lw3
  replace hr := hr.ext Lw3
  replace q0 := Lw3.cell q0
  replace q1 := Lw3.cell q1
  replace f_q0 := Lw3.frz z_q f_q0
  replace f_q1 := Lw3.frz z_q f_q1
  have y0 : w3.cell? ⟨w2.heap.size, 0, none⟩ = some (.slice (some ⟨gu, 0, none⟩) s.length ru) := by subst hW2; exact qCl
  have y1 : w3.cell? ⟨w2.heap.size, 1, none⟩ = some (.slice none 0 0) := by subst hW2; exact qCl
  have f_y0 : w3.frozen? ⟨w2.heap.size, 0, none⟩ = false := by subst hW2; exact qFz
  have f_y1 : w3.frozen? ⟨w2.heap.size, 1, none⟩ = false := by subst hW2; exact qFz
  have z_q : w.heap.size < w3.heap.size := qB q0
  have z_y : w2.heap.size < w3.heap.size := qB y0
  replace h1 := h1.ext Lw3
  replace O1 := O1.ext Lw3
  have s_w3 : w.heap.size ≤ w3.heap.size := Xw3.size
  clear hW2
  refine (count_c s _ _ _ (h1.ext qXt)).mono ?_
  rintro e w' ⟨rfl, rfl⟩
  obtain ⟨N, hN⟩ : ∃ N, countL s = N := ⟨_, rfl⟩
  rw [hN] at hc ⊢
  clear hN
  generalize hg7 : w2.heap.size = gy at *
  replace hg7 := Lib.hid hg7
  have hyl : w.heap.size < gy := by omega
  have hgu : gu < gy := by omega
  have O1b : w.heap.size < gu := by omega
  replace O1 := OwnI.lower O1 (show w.heap.size ≤ _ by omega)
  go_wp2_with fail
  go_loopw [6] (fun i wr => ∃ (q : Nat) (n : Int) (xs : List Int) (pv : Option Addr) (cv : Nat), i = .int .i64 n ∧ n ≤ 60 ∧ (n ≤ 0 ∨ (xs.length : Int) + n ≤ 60) ∧ xs.length ≤ 60 ∧ q ≤ k + xs.length ∧ OwnI wr (gy + 1) (.slice pv xs.length cv) xs ∧ OwnI wr w.heap.size (.slice (some ⟨gu, 0, none⟩) s.length ru) s ∧ gy < wr.heap.size ∧ wr.cell? ⟨w.heap.size, 0, none⟩ = some (.slice none 0 0) ∧ wr.frozen? ⟨w.heap.size, 0, none⟩ = false ∧ wr.cell? ⟨w.heap.size, 1, none⟩ = some (.slice none 0 0) ∧ wr.frozen? ⟨w.heap.size, 1, none⟩ = false ∧ wr.cell? ⟨gy, 0, none⟩ = some (.slice (some ⟨gu, 0, none⟩) s.length ru) ∧ wr.frozen? ⟨gy, 0, none⟩ = false ∧ wr.cell? ⟨gy, 1, none⟩ = some (.slice pv xs.length cv) ∧ wr.frozen? ⟨gy, 1, none⟩ = false ∧ Rd wr rb q ∧ Rch rb w wr) (fun i _ => (intOf i).toNat)
  case atStart => exact ⟨k, N, [], none, 0, rfl, hc, Or.inr (by simp; omega), by simp, by simp, OwnI.nil _ _, O1, z_y, q0, f_q0, q1, f_q1, y0, f_y0, y1, f_y1, hr, Xw3⟩
  case round =>
    clear q0 f_q0 q1 f_q1 y0 f_y0 y1 f_y1 O1 h1 hr Xw3 hg7
    obtain ⟨q, n, xs, pv, cv, rfl, hn60, hn2, hx60, hq, OV, O1, hzy, q0, f_q0, q1, f_q1, y0, f_y0, y1, f_y1, hr, X⟩ := hrel
    have s_wr := X.size
    have z_q : w.heap.size < wr.heap.size := qB q0
    have z_y : gy < wr.heap.size := qB y0
    by_cases hn : 0 < n
    · have hw1 : IntKind.i64.wrap (n - 1) = n - 1 := IntWalk.i64_in _ (by omega)
      go_wp2_with fail
      refine wp_region_tail (S := fun w' => w'.cell? ⟨gy, 1, none⟩ = some (.slice pv xs.length cv)) (fun i => decide (8 ≤ i)) qKr y1 (fun hHeld => ?_)
      refine qTk (v := ?_) 0 rfl (.inl ⟨by rfl, ?_⟩) ?_
      rotate_left
      · (intro w hSw; (try dsimp only at hSw); go_simp; try with_reducible rfl)
      try simp only [Act.put, qa, qb, qc, qD, qE, qF]
      refine qTk (v := ?_) 1 rfl (.inl ⟨by rfl, ?_⟩) ?_
      rotate_left
      · (intro w hSw; (try dsimp only at hSw); go_simp; try with_reducible rfl)
      try simp only [Act.put, qa, qb, qc, qD, qE, qF]
      refine qTk (v := ?_) 2 rfl (.inl ⟨by rfl, ?_⟩) ?_
      rotate_left
      · (intro w hSw; (try dsimp only at hSw); go_simp; try with_reducible rfl)
      try simp only [Act.put, qa, qb, qc, qD, qE, qF]
      refine wpTail_one (i := 3) qKr rfl rfl (fun K hK => ?_)
      try simp only [Act.put, qa, qb, qc, qD, qE, qF]
      go_simp
      refine (pick1_c 19 _ _ _ hr.drew (by omega) (by omega)).mono ?_
      rintro e w5 ⟨x, rfl, hx, Rw5, Cw5⟩
      have Ew5 : Ext wr (wr.drew) := qXt
      have e_w5 := Ew5.size
      have zc_w5 := Cw5.size
      simp only [World.size_drew, World.size_alloc] at zc_w5
      have Xw5 : Rch rb w w5 := Rch.step (Rch.ext X Ew5) Cw5
      replace q0 := Cw5.cell (by omega) (Ew5.cell q0)
      replace f_q0 := Cw5.frzO (by omega) (by omega) (Ew5.frz z_q f_q0)
      replace q1 := Cw5.cell (by omega) (Ew5.cell q1)
      replace f_q1 := Cw5.frzO (by omega) (by omega) (Ew5.frz z_q f_q1)
      replace y0 := Cw5.cell (by omega) (Ew5.cell y0)
      replace f_y0 := Cw5.frzO (by omega) (by omega) (Ew5.frz z_y f_y0)
      replace y1 := Cw5.cell (by omega) (Ew5.cell y1)
      replace f_y1 := Cw5.frzO (by omega) (by omega) (Ew5.frz z_y f_y1)
      have z_q : w.heap.size < w5.heap.size := qB q0
      have z_y : gy < w5.heap.size := qB y0
      replace OV := (OV.ext Ew5).chg Cw5 (by omega)
      replace O1 := (O1.ext Ew5).chgN Cw5 (by omega)
      have s_w5 : w.heap.size ≤ w5.heap.size := Xw5.size
      clear hr Cw5 Ew5
      refine hK.out _ _ y1 (fun hHeld => ?_)
      clear hK K
      try simp only [Act.put, qa, qb, qc, qD, qE, qF]
      have hw9 : IntKind.i64.wrap (x - 9) = x - 9 := IntWalk.i64_in _ (by omega)
      refine qTk (v := ?_) 4 rfl (.inl ⟨by rfl, ?_⟩) ?_
      rotate_left
      · (intro w hSw; (try dsimp only at hSw); go_simp; try with_reducible rfl)
      try simp only [Act.put, qa, qb, qc, qD, qE, qF]
      refine wpTail_one (i := 5) qKr rfl rfl (fun K hK => ?_)
      try simp only [Act.put, qa, qb, qc, qD, qE, qF]
      go_simp
      refine hK.out _ _ (Ext.cell (w := w5) qXt y1) (fun hHeld => ?_)
      clear hK K
      try simp only [Act.put, qa, qb, qc, qD, qE, qF]
      refine wpTail_one (i := 6) qKr rfl rfl (fun K hK => ?_)
      have Ew6 : Ext w5 ((w5).alloc (.cells #[.int .i64 (x - 9)] 3)) := qXt
      have Sw6 : Ints ((w5).alloc (.cells #[.int .i64 (x - 9)] 3)) 0 (.slice (some ⟨w5.heap.size, 0, none⟩) 1 1) [x - 9] := by simpa using Ints.one w5 0 (x - 9) (Nat.zero_le _)
      refine step_app rfl (.tmp 17) (.tmp 21) rfl rfl rfl (by exact OV.ext Ew6) (by exact Sw6) (by simp only [List.length_cons, List.length_nil]; omega) (by simp <;> omega) ?_
      intro vw6 w6 ho hgr hbl hvb
      clear hgr hvb
      obtain ⟨pw, cw, rfl⟩ : ∃ a c, vw6 = .slice a (xs.length + 1) c := by obtain ⟨a, c, h⟩ := (ho.ints (by simp; omega)).form; exact ⟨a, c, by rw [h]; simp⟩
      have Xw6 : Rch rb w w6 := Rch.below' (Xw5.ext Ew6) (Below.chg hbl) (by omega)
      replace q0 := below_cell hbl (by omega) (Ew6.cell q0)
      replace f_q0 := below_frz hbl (by omega) (Ew6.frz z_q f_q0)
      replace q1 := below_cell hbl (by omega) (Ew6.cell q1)
      replace f_q1 := below_frz hbl (by omega) (Ew6.frz z_q f_q1)
      replace y0 := below_cell hbl (by omega) (Ew6.cell y0)
      replace f_y0 := below_frz hbl (by omega) (Ew6.frz z_y f_y0)
      replace y1 := below_cell hbl (by omega) (Ew6.cell y1)
      replace f_y1 := below_frz hbl (by omega) (Ew6.frz z_y f_y1)
      have z_q : w.heap.size < w6.heap.size := qB q0
      have z_y : gy < w6.heap.size := qB y0
      replace Rw5 := (Rw5.ext Ew6).below hbl (by omega)
      replace O1 := (O1.ext Ew6).chgN (Below.chg hbl) (by omega)
      clear OV
      have OV := ho
      clear ho hbl Ew6 Sw6
      have s_w6 : w.heap.size ≤ w6.heap.size := Xw6.size
      refine hK.out _ _ y1 (fun hHeld => ?_)
      clear hK K
      try simp only [Act.put, qa, qb, qc, qD, qE, qF]
      refine qTk (v := ?_) 7 rfl (.inl ⟨by rfl, ?_⟩) ?_
      rotate_left
      · (intro w hSw; (try dsimp only at hSw); go_simp; try with_reducible rfl)
      try simp only [Act.put, qa, qb, qc, qD, qE, qF]
      refine wpTail_last (i := 8) qKr rfl rfl (fun K hK => ?_)
      try simp only [Act.put, qa, qb, qc, qD, qE, qF]
      go_simp
      refine hK.out _ _ ?_
      clear hK K
      try simp only [Act.put, qa, qb, qc, qD, qE, qF]
      refine wpTail_done qKr ?_ _
      clear hHeld
      generalize hW3 : (w6.setCell ⟨gy, 1, none⟩ (.slice pw (xs.length + 1) cw)) = w7 at *
      have Kw7 : Chg (gy) (gy + 1) w6 w7 := by subst hW3; exact qCh
      have Xw7 : Rch rb w w7 := by subst hW3; exact qRt
      replace Rw5 := (Rd.set2 (a := ⟨gy, 1, none⟩) (u := .slice pw (xs.length + 1) cw) (show rb < gy by omega) Rw5)
      rw [hW3] at Rw5
      replace q0 := Kw7.cell (by omega) q0
      replace f_q0 := Kw7.frzO (by omega) z_q f_q0
      replace q1 := Kw7.cell (by omega) q1
      replace f_q1 := Kw7.frzO (by omega) z_q f_q1
      replace y0 : w7.cell? ⟨gy, 0, none⟩ = some (.slice (some ⟨gu, 0, none⟩) s.length ru) := by subst hW3; go_simp
      replace f_y0 : w7.frozen? ⟨gy, 0, none⟩ = false := by subst hW3; first | (simp only [World.frozen?_setCell]; with_reducible assumption) | go_simp
      replace y1 : w7.cell? ⟨gy, 1, none⟩ = some (.slice pw (xs.length + 1) cw) := by subst hW3; go_simp
      replace f_y1 : w7.frozen? ⟨gy, 1, none⟩ = false := by subst hW3; first | (simp only [World.frozen?_setCell]; with_reducible assumption) | go_simp
      replace OV := OV.chg Kw7 (by omega)
      replace O1 := O1.chgN Kw7 (by omega)
      clear Kw7
      have z_q : w.heap.size < w7.heap.size := qB q0
      have z_y : gy < w7.heap.size := qB y0
      have s_w7 : w.heap.size ≤ w7.heap.size := Xw7.size
      clear hW3
      go_wp2_with fail
      go_roundw
      case rel => exact ⟨q + 1, n - 1, xs ++ [x - 9], pw, cw, by first | rfl | go_num, by omega, by simp; omega, by simp; omega, by simp; omega, (by simpa using OV), O1, z_y, q0, f_q0, q1, f_q1, y0, f_y0, by simpa using y1, f_y1, Rw5, Xw7⟩
      case measure => simp [intOf]; omega
    · go_wp2_with fail
      generalize hW4 : ((wr.setCell ⟨w.heap.size, 0, none⟩ (.slice (some ⟨gu, 0, none⟩) s.length ru)).setCell ⟨w.heap.size, 1, none⟩ (.slice pv xs.length cv)) = w5 at *
      have Kw5 : Chg (w.heap.size) (w.heap.size + 1) wr w5 := by subst hW4; exact qCh
      have Xw5 : Rch rb w w5 := by subst hW4; exact qRt
      replace hr := (Rd.set2 (a := ⟨w.heap.size, 1, none⟩) (u := .slice pv xs.length cv) (show rb < w.heap.size by omega) (Rd.set2 (a := ⟨w.heap.size, 0, none⟩) (u := .slice (some ⟨gu, 0, none⟩) s.length ru) (show rb < w.heap.size by omega) hr))
      rw [hW4] at hr
      replace q0 : w5.cell? ⟨w.heap.size, 0, none⟩ = some (.slice (some ⟨gu, 0, none⟩) s.length ru) := by subst hW4; go_simp
      replace f_q0 : w5.frozen? ⟨w.heap.size, 0, none⟩ = false := by subst hW4; first | (simp only [World.frozen?_setCell]; with_reducible assumption) | go_simp
      replace q1 : w5.cell? ⟨w.heap.size, 1, none⟩ = some (.slice pv xs.length cv) := by subst hW4; go_simp
      replace f_q1 : w5.frozen? ⟨w.heap.size, 1, none⟩ = false := by subst hW4; first | (simp only [World.frozen?_setCell]; with_reducible assumption) | go_simp
      replace y0 := Kw5.cell (by omega) y0
      replace f_y0 := Kw5.frzO (by omega) z_y f_y0
      replace y1 := Kw5.cell (by omega) y1
      replace f_y1 := Kw5.frzO (by omega) z_y f_y1
      replace OV := OV.chg Kw5 (by omega)
      replace O1 := O1.chgN Kw5 (by omega)
      clear Kw5
      have z_q : w.heap.size < w5.heap.size := qB q0
      have z_y : gy < w5.heap.size := qB y0
      have s_w5 : w.heap.size ≤ w5.heap.size := Xw5.size
      clear hW4
      refine bodyPost_ret (v := .agg #[.slice (some ⟨gu, 0, none⟩) s.length ru, .slice pv xs.length cv]) (by simp only [results, Try.results116]; go_simp) rfl ?_
      exact ⟨gu, ru, pv, cv, xs, gy + 1, rfl, O1, ⟨by omega, by omega⟩, OV, hx60, hr.mono (by omega), Xw5⟩

end Go.Proofs.Ytpgkhjmboiepcaa

/- Walks: a drawn shape, with the number of its cells. No condition. -/
namespace Go.Proofs.Ytpgkhjmboiepcaa
open Go.RowKit
set_option linter.unusedVariables false
set_option maxRecDepth 100000

theorem countL_snocG (xs : List Int) (x : Int) : countL (xs ++ [x]) = wrap64 (countL xs * x) := by unfold countL; rw [List.foldl_append]; rfl
set_option maxHeartbeats 3200000 in
theorem goodShapeC_c (rb k : Nat) (w : World) (hr : Rd w rb k) (hk : k ≤ 900000) :
    Calls Try.prog 123 #[.pointer (some ⟨rb, 0, none⟩)] w (fun e w' => ∃ v xs, e = .returned v ∧ OwnI w' w.heap.size v xs ∧ xs.length ≤ 4 ∧ (0 ≤ countL xs ∧ countL xs ≤ 60) ∧ Rd w' rb (k + 8) ∧ Chg rb (rb + 1) w w') := by
  have hlt := hr.lt
  go_enter Try.func123, Try.ntmps123
  go_wp2_with fail
  refine (oneLit_c _ _ _ rb _ _ (by repeat (first | (with_reducible exact hr) | (with_reducible apply Rd.drewN) | (with_reducible apply Rd.drew) | (with_reducible apply Rd.alloc) | ((with_reducible apply Rd.set2); (· first | assumption | (simp; omega) | (simp; done) | omega)))) (by omega) (by rfl) (by rfl) (by constructor <;> simp) (by first | rfl | simp)).mono ?_
  rintro e w1 ⟨n, rfl, hn, hr1, hC1⟩
  have hn' : 0 ≤ n ∧ n ≤ 4 := by simp [litL] at hn; omega
  clear hn
  obtain ⟨m, rfl⟩ : ∃ m : Nat, n = m := ⟨n.toNat, by omega⟩
  have ho1 : OwnI w1 w.heap.size (.slice (some ⟨w.heap.size, 0, none⟩) 0 0) [] := ((OwnI.lit0 w w.heap.size (Nat.le_refl _)).ext qXo).chg hC1 hlt
  have hX1 : Chg rb (rb + 1) w w1 := Chg.trans (Chg.of_ext qXo) hC1
  clear hC1
  go_wp2_with fail
  go_loopw [3, 4] (fun v i wr => ∃ (q m : Nat) (xs : List Int), i = .int .i64 m ∧ xs.length + m ≤ 4 ∧ Hid (0 ≤ countL xs ∧ countL xs ≤ 60) ∧ OwnI wr w.heap.size v xs ∧ Rd wr rb q ∧ q + m ≤ k + 6 ∧ Chg rb (rb + 1) w wr) (fun _ i _ => (intOf i).toNat)
  case atStart => exact ⟨k + 1, m, [], rfl, by simp; omega, Lib.hid (by decide), ho1, hr1, by omega, hX1⟩
  case round =>
    obtain ⟨q, m, xs, rfl, hl, hcl, ho, hr, hq, hX⟩ := hrel
    have hz : w.heap.size ≤ wr.heap.size := hX.size
    cases m with
    | succ m =>
      have hI : (0 : Int) < ((m + 1 : Nat) : Int) := by omega
      have hI2 : ((m + 1 : Nat) : Int) - 1 = (m : Int) := by omega
      go_wp2_with fail
      refine (oneLit_c _ _ _ rb _ _ (by repeat (first | (with_reducible exact hr) | (with_reducible apply Rd.drewN) | (with_reducible apply Rd.drew) | (with_reducible apply Rd.alloc) | ((with_reducible apply Rd.set2); (· first | assumption | (simp; omega) | (simp; done) | omega)))) (by omega) (by rfl) (by rfl) (by constructor <;> simp) (by first | rfl | simp)).mono ?_
      rintro e w2 ⟨x, rfl, hx, hr2, hC2⟩
      have ho2 := (ho.ext qXo).chg hC2 hlt
      have hX2 : Chg rb (rb + 1) w w2 := (hX.ext qXo).trans hC2
      have hz2 : w.heap.size ≤ w2.heap.size := hX2.size
      have i2 := ho2.ints (by omega)
      have hx5 : 0 ≤ x ∧ x ≤ 5 := by simp [litL] at hx; omega
      clear hC2 hX ho hr hx
      go_wp2_with fail
      refine (count_c xs _ _ _ i2).mono ?_
      rintro e w' ⟨rfl, rfl⟩
      clear i2
      replace ho2 := Lib.hid ho2
      replace hX2 := Lib.hid hX2
      replace hr2 := Lib.hid hr2
      obtain ⟨cc, hcc⟩ : ∃ c, countL xs = c := ⟨_, rfl⟩
      have hcb := hcl.out
      rw [hcc] at hcb ⊢
      have hmb : 0 ≤ cc * x ∧ cc * x ≤ 300 := by
        have h1 : cc * x ≤ 60 * 5 := Int.mul_le_mul hcb.2 hx5.2 hx5.1 (by omega)
        exact ⟨Int.mul_nonneg hcb.1 hx5.1, by omega⟩
      have hsn : Hid (countL (xs ++ [x]) = cc * x) := Lib.hid (by rw [countL_snocG, hcc]; first | exact IntWalk.wrap64_in (cc * x) (by omega) | exact Go.wrap64_in (cc * x) (by omega) | (unfold wrap64; omega))
      replace hcc := Lib.hid hcc
      obtain ⟨cx, hcx⟩ : ∃ c, cc * x = c := ⟨_, rfl⟩
      have hwx : IntKind.i64.wrap (cc * x) = cx := by rw [← hcx]; exact IntWalk.i64_in _ (by omega)
      rw [hcx] at hmb hsn
      replace hcx := Lib.hid hcx
      by_cases hle : cx ≤ 60
      · skip
        go_wp2_with (at_builtin; refine wpList_app rfl (.tmp 22) (.tmp 24) rfl rfl rfl (ho2.out.ext ((Ext.refl _).alloc _)) (Ints.one _ 0 _ (Nat.zero_le _)) (by simp only [List.length_cons, List.length_nil]; omega) (by simp; omega) ?_; intro v' w3 ho3 _ hb3 _; replace ho3 := Lib.hid ho3)
        go_roundw
        case rel => exact ⟨q + 1, m, xs ++ [x], by first | rfl | go_num, by simp; omega, Lib.hid (by rw [hsn.out]; exact ⟨hmb.1, hle⟩), ho3.out, (hr2.out.alloc _).below hb3 hlt, by omega, Rch.below (hX2.out.ext qXo) hb3⟩
        case measure => simp [intOf]
      · go_wp2_with fail
        go_roundw
        case rel => exact ⟨q + 1, m, xs, by first | rfl | go_num, by omega, hcl, ho2.out, hr2.out, by omega, hX2.out⟩
        case measure => simp [intOf]
    | zero =>
      replace ho := Lib.hid ho
      replace hX := Lib.hid hX
      go_wp2_with fail
      go_ret
      exact ⟨_, xs, rfl, ho.out, by omega, hcl.out, hr.mono (by omega), hX.out⟩

end Go.Proofs.Ytpgkhjmboiepcaa

/- Words for memory: slices whose elements take several cells. No condition. -/
namespace Go.Proofs.Ytpgkhjmboiepcaa
open Go.RowKit

theorem flat_len {sz : Nat} : ∀ {L : List (List Value)}, (∀ c ∈ L, c.length = sz) → L.flatten.length = L.length * sz
  | [], _ => by simp
  | c :: L, h => by
    rw [List.flatten_cons, List.length_append, flat_len (fun c hc => h c (List.mem_cons_of_mem _ hc)), h c (List.mem_cons_self ..), List.length_cons, Nat.add_mul]
    omega
theorem flat_get {sz : Nat} : ∀ {L : List (List Value)}, (∀ c ∈ L, c.length = sz) → ∀ (i j : Nat) (hi : i < L.length) (hj : j < sz), L.flatten[i * sz + j]? = (L[i])[j]?
  | [], _, i, j, hi, _ => absurd hi (by simp)
  | c :: L, h, 0, j, _, hj => by
    have hc := h c (List.mem_cons_self ..)
    simp only [List.flatten_cons, Nat.zero_mul, Nat.zero_add, List.getElem_cons_zero]
    rw [List.getElem?_append_left (by omega)]
  | c :: L, h, i+1, j, hi, hj => by
    have hc := h c (List.mem_cons_self ..)
    have hi' : i < L.length := by simpa using hi
    have e : (i + 1) * sz + j = c.length + (i * sz + j) := by rw [Nat.add_mul, hc]; omega
    rw [List.flatten_cons, e, List.getElem?_append_right (by omega), Nat.add_sub_cancel_left, flat_get (fun c hc => h c (List.mem_cons_of_mem _ hc)) i j hi' hj]
    simp
theorem flat_set {sz : Nat} : ∀ {L : List (List Value)}, (∀ c ∈ L, c.length = sz) → ∀ (i j : Nat) (hi : i < L.length) (hj : j < sz) (x : Value), L.flatten.set (i * sz + j) x = (L.set i ((L[i]).set j x)).flatten
  | [], _, i, j, hi, _, _ => absurd hi (by simp)
  | c :: L, h, 0, j, _, hj, x => by
    have hc := h c (List.mem_cons_self ..)
    simp only [List.flatten_cons, Nat.zero_mul, Nat.zero_add, List.set_cons_zero, List.getElem_cons_zero]
    rw [List.set_append_left _ _ (by omega)]
  | c :: L, h, i+1, j, hi, hj, x => by
    have hc := h c (List.mem_cons_self ..)
    have hi' : i < L.length := by simpa using hi
    have e : (i + 1) * sz + j = c.length + (i * sz + j) := by rw [Nat.add_mul, hc]; omega
    rw [List.flatten_cons, e, List.set_append_right _ _ (by omega), Nat.add_sub_cancel_left, flat_set (fun c hc => h c (List.mem_cons_of_mem _ hc)) i j hi' hj x]
    simp
theorem mem_set_len {sz : Nat} {L : List (List Value)} (h : ∀ c ∈ L, c.length = sz) (i : Nat) {d : List Value} (hd : d.length = sz) : ∀ c ∈ L.set i d, c.length = sz := by
  intro c hc
  rcases List.mem_or_eq_of_mem_set hc with h' | h'
  · exact h c h'
  · rw [h', hd]

/-- an owned row whose elements take sz cells each -/
def OwnC (w : World) (base E sz : Nat) (v : Value) (L : List (List Value)) : Prop := w.ownsRow base E sz v L.length L.flatten ∧ ∀ c ∈ L, c.length = sz

section
variable {w w' : World} {base base' E sz : Nat} {v : Value} {L : List (List Value)}
theorem OwnC.nil : OwnC w base E sz (.slice none 0 0) [] := ⟨World.ownsRow_nil _ _ _ _, fun c hc => by cases hc⟩
theorem OwnC.ext (h : OwnC w base E sz v L) (hx : Ext w w') : OwnC w' base E sz v L := by
  refine ⟨⟨h.1.1, ?_⟩, h.2⟩
  rcases h.1.2 with h2 | ⟨g, cap, cur, hv, hg, hh, r⟩
  · exact .inl h2
  · exact .inr ⟨g, cap, cur, hv, hg, (hx.block g (Array.getElem?_eq_some_iff.1 hh).1).trans hh, r⟩
theorem OwnC.lower (h : OwnC w base E sz v L) (hb : base' ≤ base) : OwnC w base' E sz v L :=
  ⟨⟨h.1.1, h.1.2.imp id fun ⟨g, cap, cur, hv, hg, r⟩ => ⟨g, cap, cur, hv, Nat.le_trans hb hg, r⟩⟩, h.2⟩
theorem OwnC.kept {row : Option Nat} (h : OwnC w base E sz v L) (hg : w.grownBy w' row) (hne : v.ownBlock = none ∨ v.ownBlock ≠ row) : OwnC w' base E sz v L := ⟨World.ownsRow.kept h.1 hg hne, h.2⟩
theorem OwnC.chg {lo hi : Nat} (h : OwnC w base E sz v L) (k : Chg lo hi w w') (hb : hi ≤ base) : OwnC w' base E sz v L := by
  refine ⟨⟨h.1.1, ?_⟩, h.2⟩
  rcases h.1.2 with h2 | ⟨g, cap, cur, hv, hg, hh, r⟩
  · exact .inl h2
  · exact .inr ⟨g, cap, cur, hv, hg, (k.block g (Array.getElem?_eq_some_iff.1 hh).1 (.inr (by omega))).trans hh, r⟩
theorem OwnC.form (h : OwnC w base E sz v L) : ∃ a c, v = .slice a L.length c := by
  rcases h.1.2 with ⟨rfl, h0⟩ | ⟨g, cap, cur, rfl, _⟩
  · rw [h0]; exact ⟨_, _, rfl⟩
  · exact ⟨_, _, rfl⟩
theorem OwnC.lt (h : OwnC w base E sz v L) (hn : L ≠ []) : ∃ g c, v = .slice (some ⟨g, 0, none⟩) L.length c ∧ v.ownBlock = some g ∧ base ≤ g ∧ g < w.heap.size ∧ L.length ≤ c ∧ c ≤ maxLen := by
  rcases h.1.2 with ⟨rfl, h0⟩ | ⟨g, cap, cur, rfl, hb, hh, h1, h2, _⟩
  · exact absurd (List.eq_nil_of_length_eq_zero h0) hn
  · exact ⟨g, cap, rfl, rfl, hb, (Array.getElem?_eq_some_iff.1 hh).1, h1, h2⟩
theorem OwnC.cell {g c : Nat} (h : OwnC w base E sz (.slice (some ⟨g, 0, none⟩) L.length c) L) (i j : Nat) (hi : i < L.length) (hj : j < sz) :
    w.cell? ⟨g, i * sz + j, none⟩ = (L[i])[j]? ∧ w.frozen? ⟨g, i * sz + j, none⟩ = false := by
  refine ⟨?_, World.ownsRow.frozenAt h.1 _⟩
  rw [World.ownsRow.cellAt h.1 _ ?_, flat_get h.2 i j hi hj]
  calc i * sz + j < i * sz + sz := by omega
    _ = (i + 1) * sz := by rw [Nat.add_mul]; omega
    _ ≤ L.length * sz := Nat.mul_le_mul_right _ hi
theorem OwnC.set {g c : Nat} (h : OwnC w base E sz (.slice (some ⟨g, 0, none⟩) L.length c) L) (i j : Nat) (hi : i < L.length) (hj : j < sz) (x : Value) :
    OwnC (w.setCell ⟨g, i * sz + j, none⟩ x) base E sz (.slice (some ⟨g, 0, none⟩) L.length c) (L.set i ((L[i]).set j x)) := by
  have h1 := (World.ownsRow.stored h.1 (i * sz + j) x).1
  rw [flat_set h.2 i j hi hj] at h1
  refine ⟨by rw [List.length_set]; exact h1, mem_set_len h.2 i ?_⟩
  rw [List.length_set]; exact h.2 _ (List.getElem_mem hi)
theorem OwnC.made (w : World) (cs : Array Value) (n : Nat) (hb : base ≤ w.heap.size) (hm : L.length ≤ maxLen) (hs : cs.toList = L.flatten) (hl : ∀ c ∈ L, c.length = sz) :
    OwnC (w.alloc (.cells cs E)) base E sz (.slice (some ⟨w.heap.size, 0, none⟩) L.length L.length) L := by
  refine ⟨?_, hl⟩
  rw [← hs]
  exact World.ownsRow_lit w cs L.length hb hm (by have := congrArg List.length hs; rw [flat_len hl] at this; simpa using this)

/-- the one element that an append takes -/
theorem src_one (w : World) (cs : List Value) (hl : cs.length = sz) (h1 : ∀ u ∈ cs, u.oneCell' = true) : SrcR (w.alloc (.cells cs.toArray E)) sz (.slice (some ⟨w.heap.size, 0, none⟩) 1 1) 1 cs := by
  refine ⟨some ⟨w.heap.size, 0, none⟩, 1, rfl, (fun h => by cases h), ?_, by omega, h1⟩
  rintro ad hh j u hu
  cases hh
  have e : (⟨w.heap.size, 0, none⟩ : Addr).add j = ⟨w.heap.size, j, none⟩ := by unfold Addr.add; split <;> simp_all
  rw [e, World.cell?_alloc_new]
  simpa using hu
theorem OwnC.snoc {v' : Value} {c : List Value} (h : OwnC w base E sz v L) (hc : c.length = sz) (h' : w'.ownsRow base E sz v' (L.length + 1) (L.flatten ++ c)) : OwnC w' base E sz v' (L ++ [c]) := by
  refine ⟨?_, fun d hd => ?_⟩
  · rw [List.flatten_append, List.length_append]; simpa using h'
  · rcases List.mem_append.1 hd with hd | hd
    · exact h.2 d hd
    · simp at hd; rw [hd, hc]
end
section
variable {T E sz bytes : Nat} {z : Value} {w : World} {base : Nat} {v src : Value} {L : List (List Value)} {c : List Value}
theorem wpList_appC (hT : Try.prog.underlying T = some (.slice E)) (hI : (Try.prog.info? E).map (fun i => (i.zero, i.size, i.bytes)) = some (some z, sz, bytes)) (hzs : z.cells.size = sz) (hsz : 0 < sz)
    {ops : Array Oper} {rest : List Oper} {o : Oper} {a : Act} {Q : Exit → Act → World → Prop} (hgd : o.guard = none) (s x : Operand)
    (ho : o.op = .call { callee := .builtin .append, args := #[s, x], argTypes := #[T, T] })
    (hs : a.eval s = v) (hx : a.eval x = src) (h : OwnC w base E sz v L) (hsrc : SrcR w sz src 1 c) (h63 : L.length + 1 ≤ 4194304) (hbytes : (L.length + 1) * bytes ≤ 140737488355328) (hb : base ≤ w.heap.size)
    (hK : ∀ v' w', OwnC w' base E sz v' (L ++ [c]) → w.grownBy w' v.ownBlock → Below base w w' → (v'.ownBlock = v.ownBlock ∨ v'.ownBlock = some w.heap.size) → wpList Try.prog ops Q rest (a.put o.dst v') w') : wpList Try.prog ops Q (o :: rest) a w :=
  wpList_appR hT hI hzs hsz hgd s x ho hs hx h.1 hsrc h63 hbytes hb fun v' w' h1 h2 h3 h4 => hK v' w' (h.snoc (by have := hsrc; obtain ⟨_, _, _, _, _, h5, _⟩ := this; omega) h1) h2 h3 h4
theorem step_appC (hT : Try.prog.underlying T = some (.slice E)) (hI : (Try.prog.info? E).map (fun i => (i.zero, i.size, i.bytes)) = some (some z, sz, bytes)) (hzs : z.cells.size = sz) (hsz : 0 < sz)
    {ops : Array Oper} {o : Oper} {a : Act} {K : Act → World → Prop} {Q : Exit → Act → World → Prop} {F : Prop} (hgd : o.guard = none) (s x : Operand)
    (ho : o.op = .call { callee := .builtin .append, args := #[s, x], argTypes := #[T, T] })
    (hs : a.eval s = v) (hx : a.eval x = src) (h : OwnC w base E sz v L) (hsrc : SrcR w sz src 1 c) (h63 : L.length + 1 ≤ 4194304) (hbytes : (L.length + 1) * bytes ≤ 140737488355328) (hb : base ≤ w.heap.size)
    (hK : ∀ v' w', OwnC w' base E sz v' (L ++ [c]) → w.grownBy w' v.ownBlock → Below base w w' → (v'.ownBlock = v.ownBlock ∨ v'.ownBlock = some w.heap.size) → K (a.put o.dst v') w') :
    if Region.wanted o (yielded ops a.tmps) = true then Oper.wp Try.prog o a w K Q else F :=
  step_appR hT hI hzs hsz hgd s x ho hs hx h.1 hsrc h63 hbytes hb fun v' w' h1 h2 h3 h4 => hK v' w' (h.snoc (by have := hsrc; obtain ⟨_, _, _, _, _, h5, _⟩ := this; omega) h1) h2 h3 h4
end

end Go.Proofs.Ytpgkhjmboiepcaa

/- Words for memory: rows of records, told by cells. No condition. -/
namespace Go.Proofs.Ytpgkhjmboiepcaa
open Go.RowKit
set_option linter.unusedVariables false
set_option maxRecDepth 100000

section
variable {w w' : World} {base E sz : Nat} {v : Value} {L : List (List Value)}
theorem OwnC.blkM (h : OwnC w base E sz v L) (g : Nat) (hg : v.ownBlock = some g) : base ≤ g ∧ g < w.heap.size := World.ownsRow.lt h.1 g hg
theorem OwnC.chgM {g n c l hi : Nat} (h : OwnC w base E sz (.slice (some ⟨g, 0, none⟩) n c) L) (k : Chg l hi w w') (hg : g < l ∨ hi ≤ g) : OwnC w' base E sz (.slice (some ⟨g, 0, none⟩) n c) L := by
  refine ⟨⟨h.1.1, ?_⟩, h.2⟩
  rcases h.1.2 with h2 | ⟨g', cap, cur, hv, hb, hh, r⟩
  · exact .inl h2
  · refine .inr ⟨g', cap, cur, hv, hb, (k.block g' (Array.getElem?_eq_some_iff.1 hh).1 ?_).trans hh, r⟩
    have : some g = some g' := by have := congrArg Value.ownBlock hv; exact this
    cases this
    exact hg
theorem OwnC.setM {g n c : Nat} (h : OwnC w base E sz (.slice (some ⟨g, 0, none⟩) n c) L) (hn : n = L.length) (i j : Nat) (hi : i < L.length) (hj : j < sz) (x : Value) :
    OwnC (w.setCell ⟨g, i * sz + j, none⟩ x) base E sz (.slice (some ⟨g, 0, none⟩) n c) (L.set i ((L[i]).set j x)) := by subst hn; exact h.set i j hi hj x
theorem OwnC.cellM {g n c : Nat} (h : OwnC w base E sz (.slice (some ⟨g, 0, none⟩) n c) L) (hn : n = L.length) (i j : Nat) (hi : i < L.length) (hj : j < sz) : w.cell? ⟨g, i * sz + j, none⟩ = (L[i])[j]? ∧ w.frozen? ⟨g, i * sz + j, none⟩ = false := by subst hn; exact h.cell i j hi hj
theorem OwnC.litM (w : World) (base E sz : Nat) (hb : base ≤ w.heap.size) : OwnC (w.alloc (.cells #[] E)) base E sz (.slice (some ⟨w.heap.size, 0, none⟩) 0 0) [] := by
  simpa using OwnC.made (base := base) (E := E) (sz := sz) (L := []) w #[] 0 hb (by simp) rfl (fun c hc => by cases hc)
end
theorem made_flatM (zs : List Value) (sz : Nat) (hz : zs.length = sz) (hsz : 0 < sz) (n : Nat) : (madeCells zs.toArray (n * sz)).toList = (List.replicate n zs).flatten := by
  have hall : ∀ c ∈ List.replicate n zs, c.length = sz := fun c hc => by rw [List.eq_of_mem_replicate hc]; exact hz
  refine List.ext_getElem (by rw [flat_len hall]; simp [size_madeCells]) fun i h1 h2 => ?_
  have h : i < n * sz := by simpa [size_madeCells] using h1
  have e : i / sz * sz + i % sz = i := by rw [Nat.mul_comm]; exact Nat.div_add_mod i sz
  have h3 : i / sz < n := Nat.div_lt_of_lt_mul (by rw [Nat.mul_comm]; exact h)
  have h4 : i % sz < sz := Nat.mod_lt _ hsz
  have k := flat_get hall (i / sz) (i % sz) (by simpa using h3) h4
  rw [e, List.getElem?_eq_getElem h2, List.getElem_replicate, List.getElem?_eq_getElem (by omega)] at k
  rw [Option.some.inj k]
  simp [madeCells, hz]
  rw [List.getElem?_eq_getElem (by omega)]; rfl
/-- what is left of the size that a law allows -/
def PLeftM (need : Nat) (left : Int) (w : World) (e : Ending) (w' : World) : Prop := ∃ L : Int, e = .returned (.int .i64 L) ∧ -1 ≤ L ∧ L ≤ 1048576 ∧ (0 ≤ L → (need : Int) + L = left) ∧ Ext w w'
end Go.Proofs.Ytpgkhjmboiepcaa

/- Walks: ValidView, FitsIn, BoundsOf. -/
namespace Go.Proofs.Ytpgkhjmboiepcaa
open Go.RowKit
set_option linter.unusedVariables false
set_option maxRecDepth 100000


theorem min_lib (l : List Int) : Lib.minOf l = minL l := by cases l <;> rfl
theorem max_lib (l : List Int) : Lib.maxOf l = maxL l := by cases l <;> rfl
theorem max_c (xs : List Int) (v : Value) (w : World) (lo : Nat) (h : Ints w lo v xs) (hn : xs ≠ []) : Calls Try.prog 94 #[v] w fun e w' => e = .returned (.int .i64 (maxL xs)) ∧ w = w' := by
  obtain ⟨a, cap, rfl, h1, h2, ⟨h3, h3'⟩, h4⟩ := h
  have hpos : 0 < xs.length := by cases xs <;> simp_all
  obtain ⟨b, off, rfl, _⟩ := h4 0 hpos
  refine (Try.slices_Max_int b off xs.length cap xs w hpos (Nat.le_refl _) (by omega) (fun j hj => by obtain ⟨b', off', he, _, hc, _⟩ := h4 j hj; cases he; exact hc)).mono ?_
  rintro e w' ⟨rfl, rfl⟩
  exact ⟨by rw [List.take_length, max_lib], rfl⟩
def fitA (b : Int) (s t : List Int) (x : Int) : Bool := viewB b s t && (inB 0 60 x && fitB b s t x)
def bndT (b : Int) (s t : List Int) : Int × Int := if viewB b s t && !(countL s == 0) then (minL (offsL b s t), maxL (offsL b s t)) else (-1, -1)
end Go.Proofs.Ytpgkhjmboiepcaa

/- Words for memory: lists of records (Tensor). No condition. -/
namespace Go.Proofs.Ytpgkhjmboiepcaa
open Go.RowKit
set_option linter.unusedVariables false
set_option maxRecDepth 100000

/-- a record -/
structure Ten where
  s : List Int
  t : List Int
def noTen : Ten := ⟨[], []⟩
def tenAt (rs : List Ten) (i : Nat) : Ten := rs.getD i noTen
theorem tenAt_get {rs : List Ten} {i : Nat} (h : i < rs.length) : tenAt rs i = rs[i] := by unfold tenAt; simp [h]
theorem tenAt_app1 {rs : List Ten} {e : Ten} {i : Nat} (h : i < rs.length) : tenAt (rs ++ [e]) i = tenAt rs i := by unfold tenAt; rw [List.getD_eq_getElem?_getD, List.getElem?_append_left h, ← List.getD_eq_getElem?_getD]
theorem tenAt_app2 (rs : List Ten) (e : Ten) : tenAt (rs ++ [e]) rs.length = e := by unfold tenAt; simp
theorem tenAt_set (rs : List Ten) (i : Nat) (e : Ten) (j : Nat) (hi : i < rs.length) : tenAt (rs.set i e) j = if j = i then e else tenAt rs j := by
  unfold tenAt
  rw [List.getD_eq_getElem?_getD, List.getElem?_set, List.getD_eq_getElem?_getD]
  by_cases h : i = j
  · subst h; simp [hi]
  · rw [if_neg h, if_neg (by omega)]
theorem tenAt_ext {a b : List Ten} (hl : a.length = b.length) (h : ∀ i, i < a.length → tenAt a i = tenAt b i) : a = b := by
  refine List.ext_getElem hl fun i h1 h2 => ?_
  rw [← tenAt_get h1, ← tenAt_get h2]; exact h i h1
theorem take_tenAt {rs : List Ten} {k : Nat} (h : k < rs.length) : rs.take (k+1) = rs.take k ++ [tenAt rs k] := by rw [List.take_succ_eq_append_getElem h, tenAt_get h]
/-- the slice value v reads as the records rs; its cells, and their rows', lie in blocks from lo on -/
def Tens (w : World) (lo : Nat) (v : Value) (rs : List Ten) : Prop :=
  ∃ a cap, v = .slice a rs.length cap ∧ rs.length ≤ cap ∧ cap ≤ maxLen ∧ (rs.length ≤ 1048576 ∧ (a = none → cap = 0)) ∧
    ∀ i, i < rs.length → ∃ bl off u1 c1 u2 c2, a = some ⟨bl, off, none⟩ ∧ lo ≤ bl ∧ w.cell? ⟨bl, off + i * 2, none⟩ = some (.slice u1 (tenAt rs i).s.length c1) ∧ w.cell? ⟨bl, off + i * 2 + 1, none⟩ = some (.slice u2 (tenAt rs i).t.length c2) ∧ Ints w lo (.slice u1 (tenAt rs i).s.length c1) (tenAt rs i).s ∧ Ints w lo (.slice u2 (tenAt rs i).t.length c2) (tenAt rs i).t
section
variable {w w' : World} {lo lo' : Nat} {v : Value} {rs : List Ten}
theorem Tens.ext (h : Tens w lo v rs) (hx : Ext w w') : Tens w' lo v rs := by
  obtain ⟨a, cap, hv, h1, h2, h3, h4⟩ := h
  refine ⟨a, cap, hv, h1, h2, h3, fun i hi => ?_⟩
  obtain ⟨bl, off, u1, c1, u2, c2, ha, hl, k0, k1, j1, j2⟩ := h4 i hi
  exact ⟨bl, off, u1, c1, u2, c2, ha, hl, hx.cell k0, hx.cell k1, j1.ext hx, j2.ext hx⟩
theorem Tens.lower (h : Tens w lo v rs) (hl : lo' ≤ lo) : Tens w lo' v rs := by
  obtain ⟨a, cap, hv, h1, h2, h3, h4⟩ := h
  refine ⟨a, cap, hv, h1, h2, h3, fun i hi => ?_⟩
  obtain ⟨bl, off, u1, c1, u2, c2, ha, hb, k0, k1, j1, j2⟩ := h4 i hi
  exact ⟨bl, off, u1, c1, u2, c2, ha, by omega, k0, k1, j1.lower hl, j2.lower hl⟩
theorem Tens.chg {l h' : Nat} (h : Tens w lo v rs) (k : Chg l h' w w') (hb : h' ≤ lo) : Tens w' lo v rs := by
  obtain ⟨a, cap, hv, h1, h2, h3, h4⟩ := h
  refine ⟨a, cap, hv, h1, h2, h3, fun i hi => ?_⟩
  obtain ⟨bl, off, u1, c1, u2, c2, ha, hb', k0, k1, j1, j2⟩ := h4 i hi
  exact ⟨bl, off, u1, c1, u2, c2, ha, hb', k.cell (.inr (by omega)) k0, k.cell (.inr (by omega)) k1, j1.chg k hb, j2.chg k hb⟩
theorem Tens.form (h : Tens w lo v rs) : ∃ a c, v = .slice a rs.length c := by obtain ⟨a, cap, rfl, _⟩ := h; exact ⟨_, _, rfl⟩
theorem Tens.len (h : Tens w lo v rs) : rs.length ≤ 1048576 := by obtain ⟨_, _, _, _, _, ⟨h, _⟩, _⟩ := h; exact h
theorem Tens.nil (w : World) (lo : Nat) : Tens w lo (.slice none 0 0) [] := ⟨none, 0, rfl, by simp, by simp, ⟨by simp, fun _ => rfl⟩, fun i hi => absurd hi (by simp)⟩
/-- the cells of one record -/
theorem Tens.at {a : Option Addr} {n c : Nat} (h : Tens w lo (.slice a n c) rs) (i : Nat) (hi : i < rs.length) : ∃ bl off u1 c1 u2 c2, a = some ⟨bl, off, none⟩ ∧ w.cell? ⟨bl, off + i * 2, none⟩ = some (.slice u1 (tenAt rs i).s.length c1) ∧ w.cell? ⟨bl, off + i * 2 + 1, none⟩ = some (.slice u2 (tenAt rs i).t.length c2) ∧ Ints w lo (.slice u1 (tenAt rs i).s.length c1) (tenAt rs i).s ∧ Ints w lo (.slice u2 (tenAt rs i).t.length c2) (tenAt rs i).t := by
  obtain ⟨a', cap, hv, h1, h2, h3, h4⟩ := h
  cases hv
  obtain ⟨bl, off, u1, c1, u2, c2, ha, hb, k⟩ := h4 i hi
  exact ⟨bl, off, u1, c1, u2, c2, ha, k⟩
end
def erowCT (e : Ten) (u1 : Value) (u2 : Value) : List Value := [u1, u2]
def rowCT (rs : List Ten) (R : Nat → Value) : List (List Value) := (List.range rs.length).map fun i => erowCT (tenAt rs i) (R (2 * i)) (R (2 * i + 1))
theorem rowCT_len (rs : List Ten) (R : Nat → Value) : (rowCT rs R).length = rs.length := by simp [rowCT]
theorem rowCT_get (rs : List Ten) (R : Nat → Value) (i : Nat) (h : i < (rowCT rs R).length) : (rowCT rs R)[i] = erowCT (tenAt rs i) (R (2 * i)) (R (2 * i + 1)) := by simp [rowCT]
theorem infoT : (Try.prog.info? 29).map (fun i => (i.zero, i.size, i.bytes)) = some (some (.agg #[.slice none 0 0, .slice none 0 0]), 2, 48) := by kernel_rfl
/-- a row of records can be read -/
theorem Tens.ofRow {w : World} {lo lo2 : Nat} {rs : List Ten} {R : Nat → Value} {g r : Nat} (h : OwnC w lo 29 2 (.slice (some ⟨g, 0, none⟩) rs.length r) (rowCT rs R)) (hn : ∀ i, i < rs.length → Ints w lo2 (R (2 * i)) (tenAt rs i).s ∧ Ints w lo2 (R (2 * i + 1)) (tenAt rs i).t) (hl : rs.length ≤ 1048576) (lo3 : Nat) (h3 : lo3 ≤ lo) (h4 : lo3 ≤ lo2) : Tens w lo3 (.slice (some ⟨g, 0, none⟩) rs.length r) rs := by
  have e1 : (.slice (some ⟨g, 0, none⟩) rs.length r : Value) = .slice (some ⟨g, 0, none⟩) (rowCT rs R).length r := by rw [rowCT_len]
  have hb := (h.blkM g rfl).1
  by_cases he : rs = []
  · subst he
    obtain ⟨hr, -⟩ := h
    rcases hr.2 with ⟨h0, _⟩ | ⟨g', cap, cur, hv, hb, hh, h1, h2, _⟩
    · cases h0
    · cases hv
      exact ⟨_, r, rfl, by simp, h2, ⟨by simp, fun h => by cases h⟩, fun i hi => absurd hi (by simp)⟩
  · have hb2 := h.lt (by intro h0; have := rowCT_len rs R; rw [h0] at this; exact he (List.eq_nil_of_length_eq_zero this.symm))
    obtain ⟨g', c', hv, -, -, -, hc, hm⟩ := hb2
    rw [rowCT_len] at hv hc
    cases hv
    refine ⟨_, r, rfl, hc, hm, ⟨hl, fun h => by cases h⟩, fun i hi => ?_⟩
    rw [e1] at h
    have k := fun j (hj : j < 2) => (h.cell i j (by rw [rowCT_len]; exact hi) hj).1
    rw [rowCT_get] at k
    obtain ⟨j1, j2⟩ := hn i hi
    obtain ⟨u1, c1, e1⟩ := j1.form
    rw [e1] at j1
    obtain ⟨u2, c2, e2⟩ := j2.form
    rw [e2] at j2
    refine ⟨g, 0, u1, c1, u2, c2, rfl, by omega, ?_, ?_, j1.lower h4, j2.lower h4⟩
    · have := k 0 (by omega); rw [Nat.zero_add]; rw [← e1]; exact this
    · have := k 1 (by omega); rw [Nat.zero_add]; rw [← e2]; exact this
theorem rowCT_all (rs : List Ten) (R : Nat → Value) : ∀ c ∈ rowCT rs R, c.length = 2 := fun c hc => by
  unfold rowCT at hc
  obtain ⟨i, -, rfl⟩ := List.mem_map.1 hc
  rfl

end Go.Proofs.Ytpgkhjmboiepcaa

/- Words for memory: lists of records (IntS). No condition. -/
namespace Go.Proofs.Ytpgkhjmboiepcaa
open Go.RowKit
set_option linter.unusedVariables false
set_option maxRecDepth 100000

/-- a record -/
structure Lst where
  s : List Int
def noLst : Lst := ⟨[]⟩
def lstAt (rs : List Lst) (i : Nat) : Lst := rs.getD i noLst
theorem lstAt_get {rs : List Lst} {i : Nat} (h : i < rs.length) : lstAt rs i = rs[i] := by unfold lstAt; simp [h]
theorem lstAt_app1 {rs : List Lst} {e : Lst} {i : Nat} (h : i < rs.length) : lstAt (rs ++ [e]) i = lstAt rs i := by unfold lstAt; rw [List.getD_eq_getElem?_getD, List.getElem?_append_left h, ← List.getD_eq_getElem?_getD]
theorem lstAt_app2 (rs : List Lst) (e : Lst) : lstAt (rs ++ [e]) rs.length = e := by unfold lstAt; simp
theorem lstAt_set (rs : List Lst) (i : Nat) (e : Lst) (j : Nat) (hi : i < rs.length) : lstAt (rs.set i e) j = if j = i then e else lstAt rs j := by
  unfold lstAt
  rw [List.getD_eq_getElem?_getD, List.getElem?_set, List.getD_eq_getElem?_getD]
  by_cases h : i = j
  · subst h; simp [hi]
  · rw [if_neg h, if_neg (by omega)]
theorem lstAt_ext {a b : List Lst} (hl : a.length = b.length) (h : ∀ i, i < a.length → lstAt a i = lstAt b i) : a = b := by
  refine List.ext_getElem hl fun i h1 h2 => ?_
  rw [← lstAt_get h1, ← lstAt_get h2]; exact h i h1
theorem take_lstAt {rs : List Lst} {k : Nat} (h : k < rs.length) : rs.take (k+1) = rs.take k ++ [lstAt rs k] := by rw [List.take_succ_eq_append_getElem h, lstAt_get h]
/-- the slice value v reads as the records rs; its cells, and their rows', lie in blocks from lo on -/
def Lsts (w : World) (lo : Nat) (v : Value) (rs : List Lst) : Prop :=
  ∃ a cap, v = .slice a rs.length cap ∧ rs.length ≤ cap ∧ cap ≤ maxLen ∧ (rs.length ≤ 1048576 ∧ (a = none → cap = 0)) ∧
    ∀ i, i < rs.length → ∃ bl off u1 c1, a = some ⟨bl, off, none⟩ ∧ lo ≤ bl ∧ w.cell? ⟨bl, off + i, none⟩ = some (.slice u1 (lstAt rs i).s.length c1) ∧ Ints w lo (.slice u1 (lstAt rs i).s.length c1) (lstAt rs i).s
section
variable {w w' : World} {lo lo' : Nat} {v : Value} {rs : List Lst}
theorem Lsts.ext (h : Lsts w lo v rs) (hx : Ext w w') : Lsts w' lo v rs := by
  obtain ⟨a, cap, hv, h1, h2, h3, h4⟩ := h
  refine ⟨a, cap, hv, h1, h2, h3, fun i hi => ?_⟩
  obtain ⟨bl, off, u1, c1, ha, hl, k0, j1⟩ := h4 i hi
  exact ⟨bl, off, u1, c1, ha, hl, hx.cell k0, j1.ext hx⟩
theorem Lsts.lower (h : Lsts w lo v rs) (hl : lo' ≤ lo) : Lsts w lo' v rs := by
  obtain ⟨a, cap, hv, h1, h2, h3, h4⟩ := h
  refine ⟨a, cap, hv, h1, h2, h3, fun i hi => ?_⟩
  obtain ⟨bl, off, u1, c1, ha, hb, k0, j1⟩ := h4 i hi
  exact ⟨bl, off, u1, c1, ha, by omega, k0, j1.lower hl⟩
theorem Lsts.chg {l h' : Nat} (h : Lsts w lo v rs) (k : Chg l h' w w') (hb : h' ≤ lo) : Lsts w' lo v rs := by
  obtain ⟨a, cap, hv, h1, h2, h3, h4⟩ := h
  refine ⟨a, cap, hv, h1, h2, h3, fun i hi => ?_⟩
  obtain ⟨bl, off, u1, c1, ha, hb', k0, j1⟩ := h4 i hi
  exact ⟨bl, off, u1, c1, ha, hb', k.cell (.inr (by omega)) k0, j1.chg k hb⟩
theorem Lsts.form (h : Lsts w lo v rs) : ∃ a c, v = .slice a rs.length c := by obtain ⟨a, cap, rfl, _⟩ := h; exact ⟨_, _, rfl⟩
theorem Lsts.len (h : Lsts w lo v rs) : rs.length ≤ 1048576 := by obtain ⟨_, _, _, _, _, ⟨h, _⟩, _⟩ := h; exact h
theorem Lsts.nil (w : World) (lo : Nat) : Lsts w lo (.slice none 0 0) [] := ⟨none, 0, rfl, by simp, by simp, ⟨by simp, fun _ => rfl⟩, fun i hi => absurd hi (by simp)⟩
/-- the cells of one record -/
theorem Lsts.at {a : Option Addr} {n c : Nat} (h : Lsts w lo (.slice a n c) rs) (i : Nat) (hi : i < rs.length) : ∃ bl off u1 c1, a = some ⟨bl, off, none⟩ ∧ w.cell? ⟨bl, off + i, none⟩ = some (.slice u1 (lstAt rs i).s.length c1) ∧ Ints w lo (.slice u1 (lstAt rs i).s.length c1) (lstAt rs i).s := by
  obtain ⟨a', cap, hv, h1, h2, h3, h4⟩ := h
  cases hv
  obtain ⟨bl, off, u1, c1, ha, hb, k⟩ := h4 i hi
  exact ⟨bl, off, u1, c1, ha, k⟩
end
def erowCL (e : Lst) (u1 : Value) : List Value := [u1]
def rowCL (rs : List Lst) (R : Nat → Value) : List (List Value) := (List.range rs.length).map fun i => erowCL (lstAt rs i) (R (i))
theorem rowCL_len (rs : List Lst) (R : Nat → Value) : (rowCL rs R).length = rs.length := by simp [rowCL]
theorem rowCL_get (rs : List Lst) (R : Nat → Value) (i : Nat) (h : i < (rowCL rs R).length) : (rowCL rs R)[i] = erowCL (lstAt rs i) (R (i)) := by simp [rowCL]
theorem infoL : (Try.prog.info? 23).map (fun i => (i.zero, i.size, i.bytes)) = some (some (.slice none 0 0), 1, 24) := by kernel_rfl
/-- a row of records can be read -/
theorem Lsts.ofRow {w : World} {lo lo2 : Nat} {rs : List Lst} {R : Nat → Value} {g r : Nat} (h : OwnC w lo 23 1 (.slice (some ⟨g, 0, none⟩) rs.length r) (rowCL rs R)) (hn : ∀ i, i < rs.length → Ints w lo2 (R i) (lstAt rs i).s) (hl : rs.length ≤ 1048576) (lo3 : Nat) (h3 : lo3 ≤ lo) (h4 : lo3 ≤ lo2) : Lsts w lo3 (.slice (some ⟨g, 0, none⟩) rs.length r) rs := by
  have e1 : (.slice (some ⟨g, 0, none⟩) rs.length r : Value) = .slice (some ⟨g, 0, none⟩) (rowCL rs R).length r := by rw [rowCL_len]
  have hb := (h.blkM g rfl).1
  by_cases he : rs = []
  · subst he
    obtain ⟨hr, -⟩ := h
    rcases hr.2 with ⟨h0, _⟩ | ⟨g', cap, cur, hv, hb, hh, h1, h2, _⟩
    · cases h0
    · cases hv
      exact ⟨_, r, rfl, by simp, h2, ⟨by simp, fun h => by cases h⟩, fun i hi => absurd hi (by simp)⟩
  · have hb2 := h.lt (by intro h0; have := rowCL_len rs R; rw [h0] at this; exact he (List.eq_nil_of_length_eq_zero this.symm))
    obtain ⟨g', c', hv, -, -, -, hc, hm⟩ := hb2
    rw [rowCL_len] at hv hc
    cases hv
    refine ⟨_, r, rfl, hc, hm, ⟨hl, fun h => by cases h⟩, fun i hi => ?_⟩
    rw [e1] at h
    have k := fun j (hj : j < 1) => (h.cell i j (by rw [rowCL_len]; exact hi) hj).1
    rw [rowCL_get] at k
    have j1 := hn i hi
    obtain ⟨u1, c1, e1⟩ := j1.form
    rw [e1] at j1
    refine ⟨g, 0, u1, c1, rfl, by omega, ?_, j1.lower h4⟩
    · have := k 0 (by omega); rw [Nat.mul_one, Nat.add_zero] at this; rw [Nat.zero_add]; rw [← e1]; exact this
theorem rowCL_all (rs : List Lst) (R : Nat → Value) : ∀ c ∈ rowCL rs R, c.length = 1 := fun c hc => by
  unfold rowCL at hc
  obtain ⟨i, -, rfl⟩ := List.mem_map.1 hc
  rfl

end Go.Proofs.Ytpgkhjmboiepcaa

/- Walks: slices.Delete of one number of a row of one's own. -/
namespace Go.Proofs.Ytpgkhjmboiepcaa
open Go.RowKit
set_option linter.unusedVariables false
set_option maxRecDepth 100000

def delL (xs : List Int) (i : Nat) : List Int := xs.take i ++ xs.drop (i + 1)
theorem delL_len (xs : List Int) (i : Nat) (h : i < xs.length) : (delL xs i).length = xs.length - 1 := by unfold delL; simp; omega
theorem setCells_chg (g : Nat) : ∀ (vs : List Value) (o : Nat) (w : World), Chg g (g + 1) w (w.setCells g o vs)
  | [], _, w => Chg.refl _ _ _
  | v :: r, o, w => by
    have h1 : Chg g (g + 1) w (w.setCell ⟨g, o, none⟩ v) := Chg.setCell (p := ⟨g, o, none⟩) (Chg.refl g (g + 1) _) (Nat.le_refl _) (Nat.lt_succ_self _) v
    exact h1.trans (setCells_chg g r (o + 1) _)
theorem setCells_frz (g : Nat) : ∀ (vs : List Value) (o : Nat) (w : World) (a : Addr), (w.setCells g o vs).frozen? a = w.frozen? a
  | [], _, _, _ => rfl
  | v :: r, o, w, a => by
    rw [World.setCells, setCells_frz g r (o + 1) _ a]
    first | (simp; done) | go_simp
theorem Ints.chgN {w w' : World} {lo l h g o n c : Nat} {xs : List Int} (I : Ints w lo (.slice (some ⟨g, o, none⟩) n c) xs) (k : Chg l h w w') (hg : g < l ∨ h ≤ g) : Ints w' lo (.slice (some ⟨g, o, none⟩) n c) xs := by
  obtain ⟨a', c', e, h1, h2, h3, h4⟩ := I
  cases e
  refine ⟨_, _, rfl, h1, h2, h3, fun i hi => ?_⟩
  obtain ⟨b, of, ha, hb, hc, hf⟩ := h4 i hi
  cases ha
  exact ⟨_, _, rfl, hb, k.cell hg hc, k.frzO hg (qB hc) hf⟩
/-- a call hands back a view -/
def PVW (w : World) (b : Int) (s t : List Int) (e : Ending) (w' : World) : Prop := ∃ u v, e = .returned (.agg #[.int .i64 b, u, v]) ∧ Ints w' w.heap.size u s ∧ Ints w' w.heap.size v t ∧ Ext w w'
/-- a call hands back a view and whether there is one -/
def PVWB (w : World) (b : Int) (s t : List Int) (ok : Bool) (e : Ending) (w' : World) : Prop := ∃ u v, e = .returned (.tuple #[.agg #[.int .i64 b, u, v], .bool ok]) ∧ Ints w' w.heap.size u s ∧ Ints w' w.heap.size v t ∧ Ext w w'
theorem PVWB.no {w w' : World} (h : Ext w w') : PVWB w 0 [] [] false (.returned (.tuple #[.agg #[.int .i64 0, .slice none 0 0, .slice none 0 0], .bool false])) w' :=
  ⟨_, _, rfl, Ints.nil _ _ _ _ (by simp) (fun _ => rfl), Ints.nil _ _ _ _ (by simp) (fun _ => rfl), h⟩
theorem PViewB.weak {w w' : World} {b : Int} {s t : List Int} {ok : Bool} {e : Ending} (h : PViewB w b s t ok e w') : PVWB w b s t ok e w' := by
  obtain ⟨u, v, h1, h2, h3, -, -, -, h4⟩ := h
  exact ⟨u, v, h1, h2, h3, h4⟩
end Go.Proofs.Ytpgkhjmboiepcaa

/- Words for memory: tensors, lists of labels and labels in three rows that grow side by side. No condition. -/
namespace Go.Proofs.Ytpgkhjmboiepcaa
open Go.RowKit
set_option linter.unusedVariables false
set_option maxRecDepth 100000

/-- blocks outside S are as they were -/
structure Keep (S : Nat → Prop) (w w' : World) : Prop where
 size : w.heap.size ≤ w'.heap.size
 block : ∀ g, g < w.heap.size → ¬ S g → w'.heap[g]? = w.heap[g]?
section
variable {w w' : World} {S : Nat → Prop}
theorem Keep.of_ext (h : Ext w w') : Keep S w w' := ⟨h.size, fun g hg _ => h.block g hg⟩
theorem Keep.of_chg {l u : Nat} (h : Chg l u w w') (hS : ∀ g, l ≤ g → g < u → S g) : Keep S w w' := ⟨h.size, fun g hg hn => h.block g hg (by
 rcases Nat.lt_or_ge g l with h1 | h1
 ·
  exact .inl h1
 ·
  rcases Nat.lt_or_ge g u with h2 | h2
  ·
   exact absurd (hS g h1 h2) hn
  ·
   exact .inr h2)⟩
theorem Keep.of_below {B : Nat} (h : Below B w w') (hS : ∀ g, B ≤ g → S g) : Keep S w w' := ⟨h.size, fun g hg hn => h.block g (by
 rcases Nat.lt_or_ge g B with h1 | h1
 ·
  exact h1
 ·
  exact absurd (hS g h1) hn)⟩
theorem Keep.of_grown {r : Option Nat} (h : w.grownBy w' r) (hS : ∀ g, r = some g → S g) : Keep S w w' := ⟨h.size, fun g hg hn => h.block g hg (fun e => hn (hS g e.symm))⟩
theorem Keep.of_set {p : Addr} {u : Value} (hS : S p.block) : Keep S w (w.setCell p u) := ⟨by simp, fun g hg hn => Below.heap_setCell _ _ _ _ (by intro h; exact hn (h ▸ hS))⟩
theorem OwnC.keepS {base E sz : Nat} {v : Value} {L : List (List Value)} (h : OwnC w base E sz v L) (k : Keep S w w') (hv : ∀ g, v.ownBlock = some g → ¬ S g) : OwnC w' base E sz v L := by
 refine ⟨⟨h.1.1, ?_⟩, h.2⟩
 rcases h.1.2 with h2 | ⟨g, cap, cur, e, hg, hh, r⟩
 ·
  exact .inl h2
 ·
  refine .inr ⟨g, cap, cur, e, hg, (k.block g (Array.getElem?_eq_some_iff.1 hh).1 (hv g ?_)).trans hh, r⟩
  rw [e]; rfl
theorem OwnI.keepS {base : Nat} {v : Value} {xs : List Int} (h : OwnI w base v xs) (k : Keep S w w') (hv : ∀ g, v.ownBlock = some g → ¬ S g) : OwnI w' base v xs := by
 refine ⟨h.1, ?_⟩
 rcases h.2 with h2 | ⟨g, cap, cur, e, hg, hh, r⟩
 ·
  exact .inl h2
 ·
  refine .inr ⟨g, cap, cur, e, hg, (k.block g (Array.getElem?_eq_some_iff.1 hh).1 (hv g ?_)).trans hh, r⟩
  rw [e]; rfl
theorem OwnI.blkM {base : Nat} {v : Value} {xs : List Int} (h : OwnI w base v xs) (g : Nat) (hg : v.ownBlock = some g) : base ≤ g ∧ g < w.heap.size := World.ownsRow.lt h g hg
end

/-- tensors, lists of labels and labels in rows that grow; the block of the first list is b0 -/
structure Trio (w : World) (B hi : Nat) (tv lv av : Value) (ts : List Ten) (ls : List Lst) (al : List Int) (RT RL : Nat → Value) (bt bl ba b0 : Nat) : Prop where
 ot : OwnC w B 29 2 tv (rowCT ts RT)
 ol : OwnC w B 23 1 lv (rowCL ls RL)
 oa : OwnI w B av al
 et : tv.ownBlock = some bt
 el : lv.ownBlock = some bl
 ea : av.ownBlock = some ba
 ne : bt ≠ bl ∧ bt ≠ ba ∧ bl ≠ ba ∧ b0 ≠ bt ∧ b0 ≠ bl ∧ b0 ≠ ba
 lt : bt < hi ∧ bl < hi ∧ ba < hi ∧ b0 < hi ∧ hi ≤ w.heap.size
 it : ∀ i, i < ts.length → (OwnI w B (RT (2 * i)) (tenAt ts i).s ∧ (tenAt ts i).s.length ≤ 1000) ∧ (OwnI w B (RT (2 * i + 1)) (tenAt ts i).t ∧ (tenAt ts i).t.length ≤ 1000)
 at_ : ∀ p, p < 2 * ts.length → ∀ g, (RT p).ownBlock = some g → g < hi ∧ g ≠ bt ∧ g ≠ bl ∧ g ≠ ba ∧ g ≠ b0
 il : ∀ i, i < ls.length → OwnI w B (RL i) (lstAt ls i).s ∧ (lstAt ls i).s.length ≤ 1000
 al_ : ∀ i, i < ls.length → ∀ g, (RL i).ownBlock = some g → g < hi ∧ g ≠ bt ∧ g ≠ bl ∧ g ≠ ba ∧ (i ≠ 0 → g ≠ b0)
 first : 0 < ls.length → (RL 0).ownBlock = some b0
section
variable {w w' : World} {B hi : Nat} {tv lv av : Value} {ts : List Ten} {ls : List Lst} {al : List Int} {RT RL : Nat → Value} {bt bl ba b0 : Nat}
theorem Trio.keep {S : Nat → Prop} (h : Trio w B hi tv lv av ts ls al RT RL bt bl ba b0) (k : Keep S w w') (hS : ∀ g, B ≤ g → g < hi → ¬ S g) : Trio w' B hi tv lv av ts ls al RT RL bt bl ba b0 := by
 obtain ⟨ot, ol, oa, et, el, ea, ne, lt, it, at_, il, al_, first⟩ := h
 refine ⟨ot.keepS k (fun g hg => hS g (ot.blkM g hg).1 ?_), ol.keepS k (fun g hg => hS g (ol.blkM g hg).1 ?_), oa.keepS k (fun g hg => hS g (oa.blkM g hg).1 ?_), et, el, ea, ne, ⟨lt.1, lt.2.1, lt.2.2.1, lt.2.2.2.1, Nat.le_trans lt.2.2.2.2 k.size⟩, fun i hi' => ?_, at_, fun i hi' => ?_, al_, first⟩
 ·
  rw [et] at hg; cases hg; exact lt.1
 ·
  rw [el] at hg; cases hg; exact lt.2.1
 ·
  rw [ea] at hg; cases hg; exact lt.2.2.1
 ·
  obtain ⟨⟨o1, m1⟩, o2, m2⟩ := it i hi'
  exact ⟨⟨o1.keepS k (fun g hg => hS g (o1.blkM g hg).1 (at_ (2 * i) (by omega) g hg).1), m1⟩, o2.keepS k (fun g hg => hS g (o2.blkM g hg).1 (at_ (2 * i + 1) (by omega) g hg).1), m2⟩
 ·
  obtain ⟨o1, m1⟩ := il i hi'
  exact ⟨o1.keepS k (fun g hg => hS g (o1.blkM g hg).1 (al_ i hi' g hg).1), m1⟩
theorem Trio.ext (h : Trio w B hi tv lv av ts ls al RT RL bt bl ba b0) (k : Ext w w') : Trio w' B hi tv lv av ts ls al RT RL bt bl ba b0 := h.keep (S := fun _ => False) (.of_ext k) (fun _ _ _ h => h)
theorem Trio.chg {l u : Nat} (h : Trio w B hi tv lv av ts ls al RT RL bt bl ba b0) (k : Chg l u w w') (hu : u ≤ B) : Trio w' B hi tv lv av ts ls al RT RL bt bl ba b0 := h.keep (S := fun g => g < B) (.of_chg k (fun g _ h2 => by omega)) (fun g h1 _ h3 => by omega)
theorem Trio.below {H : Nat} (h : Trio w B hi tv lv av ts ls al RT RL bt bl ba b0) (k : Below H w w') (hu : hi ≤ H) : Trio w' B hi tv lv av ts ls al RT RL bt bl ba b0 := h.keep (S := fun g => H ≤ g) (.of_below k (fun g h => h)) (fun g _ h2 h3 => by omega)
theorem Trio.chgN {l u : Nat} (h : Trio w B hi tv lv av ts ls al RT RL bt bl ba b0) (k : Chg l u w w') (hu : hi ≤ l ∨ u ≤ B) : Trio w' B hi tv lv av ts ls al RT RL bt bl ba b0 :=
 h.keep (S := fun g => l ≤ g ∧ g < u) (.of_chg k (fun g h1 h2 => ⟨h1, h2⟩)) (fun g h1 h2 h3 => by omega)
/-- the block of the first list may be told ahead -/
theorem Trio.pre {b : Nat} (h : Trio w B hi tv lv av [] [] al RT RL bt bl ba b0) (h1 : b ≠ bt ∧ b ≠ bl ∧ b ≠ ba) (hh : hi ≤ b) (hb : b < w.heap.size) : Trio w B (b + 1) tv lv av [] [] al RT RL bt bl ba b := by
 obtain ⟨ot, ol, oa, et, el, ea, ne, lt, it, at_, il, al_, first⟩ := h
 exact ⟨ot, ol, oa, et, el, ea, by omega, by omega, it, fun p hp => absurd hp (by simp), il, fun i hi => absurd hi (by simp), fun h => absurd h (by simp)⟩
theorem Trio.pre2 {g : Nat} (h : Trio w B hi tv lv av ts ls al RT RL bt bl ba b0) (hl : ts.length = ls.length) (hh : hi ≤ g) (hb : g < w.heap.size) : ∃ b1, Trio w B (g + 1) tv lv av ts ls al RT RL bt bl ba b1 ∧ (if ls.length = 0 then g = b1 else g ≠ b1) := by
 by_cases h0 : ls.length = 0
 ·
  have e1 : ls = [] := List.eq_nil_of_length_eq_zero h0
  have e2 : ts = [] := List.eq_nil_of_length_eq_zero (by omega)
  subst e1 e2
  have := h.lt
  exact ⟨g, h.pre (by omega) hh hb, by simp⟩
 ·
  refine ⟨b0, ?_, ?_⟩
  ·
   obtain ⟨ot, ol, oa, et, el, ea, ne, lt, it, at_, il, al_, first⟩ := h
   exact ⟨ot, ol, oa, et, el, ea, ne, by omega, it, fun p hp g hg => by have := at_ p hp g hg; omega, il, fun i hi g hg => by have := al_ i hi g hg; exact ⟨by omega, this.2⟩, first⟩
  ·
   rw [if_neg h0]; have := h.lt; omega
theorem Trio.up {h2 : Nat} (h : Trio w B hi tv lv av ts ls al RT RL bt bl ba b0) (h1 : hi ≤ h2) (hb : h2 ≤ w.heap.size) : Trio w B h2 tv lv av ts ls al RT RL bt bl ba b0 := by
 obtain ⟨ot, ol, oa, et, el, ea, ne, lt, it, at_, il, al_, first⟩ := h
 exact ⟨ot, ol, oa, et, el, ea, ne, by omega, it, fun p hp g hg => by have := at_ p hp g hg; omega, il, fun i hi g hg => by have := al_ i hi g hg; exact ⟨by omega, this.2⟩, first⟩
theorem rowCT_snoc (ts : List Ten) (x : Ten) (RT : Nat → Value) (u1 u2 : Value) : rowCT (ts ++ [x]) (fun p => if p = 2 * ts.length then u1 else if p = 2 * ts.length + 1 then u2 else RT p) = rowCT ts RT ++ [[u1, u2]] := by
 refine List.ext_getElem (by simp [rowCT]) fun i h1 h2 => ?_
 have hi : i < ts.length + 1 := by simpa [rowCT] using h1
 rw [rowCT_get]
 by_cases hlt : i < ts.length
 ·
  rw [List.getElem_append_left (by rw [rowCT_len]; exact hlt), rowCT_get]
  unfold erowCT
  rw [if_neg (by omega), if_neg (by omega), if_neg (by omega), if_neg (by omega)]
 ·
  obtain rfl : i = ts.length := by omega
  rw [List.getElem_append_right (by rw [rowCT_len]; omega)]
  unfold erowCT
  simp
theorem rowCL_snoc (ls : List Lst) (x : Lst) (RL : Nat → Value) (u1 : Value) : rowCL (ls ++ [x]) (fun p => if p = ls.length then u1 else RL p) = rowCL ls RL ++ [[u1]] := by
 refine List.ext_getElem (by simp [rowCL]) fun i h1 h2 => ?_
 have hi : i < ls.length + 1 := by simpa [rowCL] using h1
 rw [rowCL_get]
 by_cases hlt : i < ls.length
 ·
  rw [List.getElem_append_left (by rw [rowCL_len]; exact hlt), rowCL_get]
  unfold erowCL
  rw [if_neg (by omega)]
 ·
  obtain rfl : i = ls.length := by omega
  rw [List.getElem_append_right (by rw [rowCL_len]; omega)]
  unfold erowCL
  simp
/-- a tensor is laid behind the tensors -/
theorem Trio.pushT {n0 : Nat} {x : Ten} {u1 u2 v' : Value} (h : Trio w B hi tv lv av ts ls al RT RL bt bl ba b0) (h0 : hi ≤ n0) (hB : B ≤ hi)
  (o1 : OwnI w n0 u1 x.s) (m1 : x.s.length ≤ 1000) (o2 : OwnI w n0 u2 x.t) (m2 : x.t.length ≤ 1000)
  (hO : OwnC w' B 29 2 v' (rowCT ts RT ++ [[u1, u2]])) (hg : w.grownBy w' tv.ownBlock) (hb : v'.ownBlock = tv.ownBlock ∨ v'.ownBlock = some w.heap.size) :
  ∃ RT' bt', (bt' = bt ∨ bt' = w.heap.size) ∧ Trio w' B w'.heap.size v' lv av (ts ++ [x]) ls al RT' RL bt' bl ba b0 := by
 obtain ⟨ot, ol, oa, et, el, ea, ne, lt, it, at_, il, al_, first⟩ := h
 have hsz := hg.size
 have kk : Keep (fun g => g = bt) w w' := .of_grown hg (fun g h => by rw [et] at h; cases h; rfl)
 have hv' : ∃ bt', v'.ownBlock = some bt' ∧ (bt' = bt ∨ bt' = w.heap.size) := by
  rcases hb with h | h
  ·
   exact ⟨bt, h.trans et, .inl rfl⟩
  ·
   exact ⟨_, h, .inr rfl⟩
 obtain ⟨bt', ev, hbt⟩ := hv'
 have hlt' := (hO.blkM bt' ev).2
 refine ⟨fun p => if p = 2 * ts.length then u1 else if p = 2 * ts.length + 1 then u2 else RT p, bt', hbt, ?_, ?_, ?_, ev, el, ea, ?_, ?_, ?_, ?_, ?_, ?_, first⟩
 ·
  rw [rowCT_snoc]; exact hO
 ·
  exact ol.keepS kk (fun g hg => by rw [el] at hg; cases hg; exact Ne.symm ne.1)
 ·
  exact oa.keepS kk (fun g hg => by rw [ea] at hg; cases hg; exact Ne.symm ne.2.1)
 ·
  omega
 ·
  omega
 ·
  intro i hi'
  rw [List.length_append] at hi'
  by_cases hlt : i < ts.length
  ·
   obtain ⟨⟨p1, q1⟩, p2, q2⟩ := it i hlt
   rw [tenAt_app1 hlt, if_neg (by omega), if_neg (by omega), if_neg (by omega), if_neg (by omega)]
   exact ⟨⟨p1.keepS kk (fun g hg => (at_ (2 * i) (by omega) g hg).2.1), q1⟩, p2.keepS kk (fun g hg => (at_ (2 * i + 1) (by omega) g hg).2.1), q2⟩
  ·
   obtain rfl : i = ts.length := by simp at hi'; omega
   rw [tenAt_app2, if_pos rfl, if_neg (by omega), if_pos rfl]
   exact ⟨⟨(o1.keepS kk (fun g hg => by have := o1.blkM g hg; omega)).lower (by omega), m1⟩, (o2.keepS kk (fun g hg => by have := o2.blkM g hg; omega)).lower (by omega), m2⟩
 ·
  intro p hp g hg
  rw [List.length_append] at hp
  by_cases e1 : p = 2 * ts.length
  ·
   rw [if_pos e1] at hg
   have := o1.blkM g hg
   omega
  ·
   by_cases e2 : p = 2 * ts.length + 1
   ·
    rw [if_neg e1, if_pos e2] at hg
    have := o2.blkM g hg
    omega
   ·
    rw [if_neg e1, if_neg e2] at hg
    have := at_ p (by simp at hp; omega) g hg
    omega
 ·
  intro i hi'
  obtain ⟨p1, q1⟩ := il i hi'
  exact ⟨p1.keepS kk (fun g hg => (al_ i hi' g hg).2.1), q1⟩
 ·
  intro i hi' g hg
  have := al_ i hi' g hg
  omega
/-- a list is laid behind the lists -/
theorem Trio.pushL {n0 gl : Nat} {x : Lst} {u1 v' : Value} (h : Trio w B hi tv lv av ts ls al RT RL bt bl ba b0) (hB : B ≤ n0)
  (o1 : OwnI w n0 u1 x.s) (m1 : x.s.length ≤ 1000) (e1 : u1.ownBlock = some gl) (z1 : gl ≠ bt ∧ gl ≠ bl ∧ gl ≠ ba) (z2 : if ls.length = 0 then gl = b0 else gl ≠ b0)
  (hO : OwnC w' B 23 1 v' (rowCL ls RL ++ [[u1]])) (hg : w.grownBy w' lv.ownBlock) (hb : v'.ownBlock = lv.ownBlock ∨ v'.ownBlock = some w.heap.size) :
  ∃ RL' bl', (bl' = bl ∨ bl' = w.heap.size) ∧ Trio w' B w'.heap.size tv v' av ts (ls ++ [x]) al RT RL' bt bl' ba b0 := by
 obtain ⟨ot, ol, oa, et, el, ea, ne, lt, it, at_, il, al_, first⟩ := h
 have hsz := hg.size
 have kk : Keep (fun g => g = bl) w w' := .of_grown hg (fun g h => by rw [el] at h; cases h; rfl)
 have hv' : ∃ bl', v'.ownBlock = some bl' ∧ (bl' = bl ∨ bl' = w.heap.size) := by
  rcases hb with h | h
  ·
   exact ⟨bl, h.trans el, .inl rfl⟩
  ·
   exact ⟨_, h, .inr rfl⟩
 obtain ⟨bl', ev, hbl⟩ := hv'
 have hlt' := (hO.blkM bl' ev).2
 have hgl := o1.blkM gl e1
 refine ⟨fun p => if p = ls.length then u1 else RL p, bl', hbl, ?_, ?_, ?_, et, ev, ea, ?_, ?_, ?_, ?_, ?_, ?_, ?_⟩
 ·
  exact ot.keepS kk (fun g hg => by rw [et] at hg; cases hg; exact ne.1)
 ·
  rw [rowCL_snoc]; exact hO
 ·
  exact oa.keepS kk (fun g hg => by rw [ea] at hg; cases hg; exact Ne.symm ne.2.2.1)
 ·
  omega
 ·
  omega
 ·
  intro i hi'
  obtain ⟨⟨p1, q1⟩, p2, q2⟩ := it i hi'
  exact ⟨⟨p1.keepS kk (fun g hg => (at_ (2 * i) (by omega) g hg).2.2.1), q1⟩, p2.keepS kk (fun g hg => (at_ (2 * i + 1) (by omega) g hg).2.2.1), q2⟩
 ·
  intro p hp g hg
  have := at_ p hp g hg
  omega
 ·
  intro i hi'
  rw [List.length_append] at hi'
  by_cases hlt : i < ls.length
  ·
   obtain ⟨p1, q1⟩ := il i hlt
   rw [lstAt_app1 hlt, if_neg (by omega)]
   exact ⟨p1.keepS kk (fun g hg => (al_ i hlt g hg).2.2.1), q1⟩
  ·
   obtain rfl : i = ls.length := by simp at hi'; omega
   rw [lstAt_app2, if_pos rfl]
   exact ⟨(o1.keepS kk (fun g hg => by rw [e1] at hg; cases hg; exact z1.2.1)).lower hB, m1⟩
 ·
  intro i hi' g hg
  rw [List.length_append] at hi'
  by_cases e2 : i = ls.length
  ·
   rw [if_pos e2, e1] at hg
   cases hg
   refine ⟨by omega, by omega, by omega, by omega, fun h0 => ?_⟩
   rw [if_neg (by omega)] at z2
   exact z2
  ·
   rw [if_neg e2] at hg
   have := al_ i (by simp at hi'; omega) g hg
   refine ⟨by omega, by omega, by omega, by omega, this.2.2.2.2⟩
 ·
  intro _
  by_cases h0 : ls.length = 0
  ·
   rw [if_pos h0] at z2
   rw [if_pos h0.symm, e1, z2]
  ·
   rw [if_neg (fun h => h0 h.symm)]
   exact first (by omega)
/-- labels are laid behind the labels -/
theorem Trio.pushA {ys : List Int} {v' : Value} (h : Trio w B hi tv lv av ts ls al RT RL bt bl ba b0) 
  (hO : OwnI w' B v' ys) (hg : w.grownBy w' av.ownBlock) (hb : v'.ownBlock = av.ownBlock ∨ v'.ownBlock = some w.heap.size) :
  ∃ ba', (ba' = ba ∨ ba' = w.heap.size) ∧ Trio w' B w'.heap.size tv lv v' ts ls ys RT RL bt bl ba' b0 := by
 obtain ⟨ot, ol, oa, et, el, ea, ne, lt, it, at_, il, al_, first⟩ := h
 have hsz := hg.size
 have kk : Keep (fun g => g = ba) w w' := .of_grown hg (fun g h => by rw [ea] at h; cases h; rfl)
 have hv' : ∃ ba', v'.ownBlock = some ba' ∧ (ba' = ba ∨ ba' = w.heap.size) := by
  rcases hb with h | h
  ·
   exact ⟨ba, h.trans ea, .inl rfl⟩
  ·
   exact ⟨_, h, .inr rfl⟩
 obtain ⟨ba', ev, hba⟩ := hv'
 have hlt' := (hO.blkM ba' ev).2
 refine ⟨ba', hba, ?_, ?_, hO, et, el, ev, ?_, ?_, ?_, ?_, ?_, ?_, first⟩
 ·
  exact ot.keepS kk (fun g hg => by rw [et] at hg; cases hg; exact ne.2.1)
 ·
  exact ol.keepS kk (fun g hg => by rw [el] at hg; cases hg; exact ne.2.2.1)
 ·
  omega
 ·
  omega
 ·
  intro i hi'
  obtain ⟨⟨p1, q1⟩, p2, q2⟩ := it i hi'
  exact ⟨⟨p1.keepS kk (fun g hg => (at_ (2 * i) (by omega) g hg).2.2.2.1), q1⟩, p2.keepS kk (fun g hg => (at_ (2 * i + 1) (by omega) g hg).2.2.2.1), q2⟩
 ·
  intro p hp g hg
  have := at_ p hp g hg
  omega
 ·
  intro i hi'
  obtain ⟨p1, q1⟩ := il i hi'
  exact ⟨p1.keepS kk (fun g hg => (al_ i hi' g hg).2.2.2.1), q1⟩
 ·
  intro i hi' g hg
  have := al_ i hi' g hg
  refine ⟨by omega, by omega, by omega, by omega, this.2.2.2.2⟩
/-- what the rows are -/
theorem Trio.tform (h : Trio w B hi tv lv av ts ls al RT RL bt bl ba b0) : ∃ c, tv = .slice (some ⟨bt, 0, none⟩) ts.length c := by
 rcases h.ot.1.2 with ⟨e, _⟩ | ⟨g, cap, cur, e, _⟩
 ·
  have := h.et; rw [e] at this; cases this
 ·
  have := h.et; rw [e] at this; cases this
  rw [rowCT_len] at e
  exact ⟨cap, e⟩
theorem Trio.lform (h : Trio w B hi tv lv av ts ls al RT RL bt bl ba b0) : ∃ c, lv = .slice (some ⟨bl, 0, none⟩) ls.length c := by
 rcases h.ol.1.2 with ⟨e, _⟩ | ⟨g, cap, cur, e, _⟩
 ·
  have := h.el; rw [e] at this; cases this
 ·
  have := h.el; rw [e] at this; cases this
  rw [rowCL_len] at e
  exact ⟨cap, e⟩
theorem Trio.aform (h : Trio w B hi tv lv av ts ls al RT RL bt bl ba b0) : ∃ c, av = .slice (some ⟨ba, 0, none⟩) al.length c := by
 rcases h.oa.2 with ⟨e, _⟩ | ⟨g, cap, cur, e, _⟩
 ·
  have := h.ea; rw [e] at this; cases this
 ·
  have := h.ea; rw [e] at this; cases this
  exact ⟨cap, e⟩
theorem Trio.tens (h : Trio w B hi tv lv av ts ls al RT RL bt bl ba b0) (hl : ts.length ≤ 1000) : Tens w B tv ts := by
 obtain ⟨c, rfl⟩ := h.tform
 exact Tens.ofRow (lo2 := B) h.ot (fun i hi => ⟨(h.it i hi).1.1.ints (by have := (h.it i hi).1.2; omega), (h.it i hi).2.1.ints (by have := (h.it i hi).2.2; omega)⟩) (by omega) B (Nat.le_refl _) (Nat.le_refl _)
theorem Trio.lsts (h : Trio w B hi tv lv av ts ls al RT RL bt bl ba b0) (hl : ls.length ≤ 1000) : Lsts w B lv ls := by
 obtain ⟨c, rfl⟩ := h.lform
 exact Lsts.ofRow (lo2 := B) h.ol (fun i hi => (h.il i hi).1.ints (by have := (h.il i hi).2; omega)) (by omega) B (Nat.le_refl _) (Nat.le_refl _)
/-- a label is laid behind the first list -/
theorem Trio.put0 {v' : Value} {ys : List Int} (h : Trio w B hi tv lv av ts ls al RT RL bt bl ba b0) (h0 : 0 < ls.length) (hl : ls.length ≤ 1000) (ht : ts.length ≤ 1000) (hw : B ≤ w.heap.size)
  (hO : OwnI w' B v' ys) (hy : ys.length ≤ 2000) (hg : w.grownBy w' (RL 0).ownBlock) (hb : v'.ownBlock = (RL 0).ownBlock ∨ v'.ownBlock = some w.heap.size) :
  Tens (w'.setCell ⟨bl, 0, none⟩ v') B tv ts ∧ Lsts (w'.setCell ⟨bl, 0, none⟩ v') B lv (ls.set 0 ⟨ys⟩) := by
 have hT := h
 have eT := h.tform
 have eL := h.lform
 obtain ⟨ot, ol, oa, et, el, ea, ne, lt, it, at_, il, al_, first⟩ := h
 obtain ⟨c1, e1⟩ := eT
 obtain ⟨c2, e2⟩ := eL
 have hf := first h0
 rw [hf] at hg hb
 have kk : Keep (fun g => g = b0) w w' := .of_grown hg (fun g h => by cases h; rfl)
 have ks : Keep (fun g => g = bl) w' (w'.setCell ⟨bl, 0, none⟩ v') := .of_set rfl
 have hz : ∃ gz, v'.ownBlock = some gz ∧ gz ≠ bl := by
  rcases hb with h | h
  ·
   exact ⟨_, h, ne.2.2.2.2.1⟩
  ·
   exact ⟨_, h, by omega⟩
 obtain ⟨gz, ez, nz⟩ := hz
 constructor
 ·
  subst e1
  refine Tens.ofRow (lo := B) (lo2 := B) (R := RT) ((ot.keepS kk ?_).keepS ks ?_) (fun i hi' => ?_) (by omega) B (Nat.le_refl _) (Nat.le_refl _)
  ·
   intro g hg; rw [et] at hg; cases hg; exact Ne.symm ne.2.2.2.1
  ·
   intro g hg; rw [et] at hg; cases hg; exact ne.1
  ·
   obtain ⟨⟨p1, q1⟩, p2, q2⟩ := it i hi'
   exact ⟨((p1.keepS kk (fun g hg => (at_ (2 * i) (by omega) g hg).2.2.2.2)).keepS ks (fun g hg => (at_ (2 * i) (by omega) g hg).2.2.1)).ints (by omega), ((p2.keepS kk (fun g hg => (at_ (2 * i + 1) (by omega) g hg).2.2.2.2)).keepS ks (fun g hg => (at_ (2 * i + 1) (by omega) g hg).2.2.1)).ints (by omega)⟩
 ·
  subst e2
  have hol := ol.keepS kk (fun g hg => by rw [el] at hg; cases hg; exact Ne.symm ne.2.2.2.2.1)
  have hset := hol.setM (by rw [rowCL_len]) 0 0 (by rw [rowCL_len]; exact h0) (by omega) v'
  rw [Nat.zero_mul, Nat.zero_add] at hset
  have hrow : (rowCL ls RL).set 0 (((rowCL ls RL)[0]'(by rw [rowCL_len]; exact h0)).set 0 v') = rowCL (ls.set 0 ⟨ys⟩) (fun p => if p = 0 then v' else RL p) := by
   rw [rowCL_get]
   refine List.ext_getElem (by simp [rowCL]) fun i h1 h2 => ?_
   rw [rowCL_get, List.getElem_set]
   by_cases hi0 : i = 0
   ·
    subst hi0; simp [erowCL]
   ·
    rw [if_neg (by omega), rowCL_get]; unfold erowCL; rw [if_neg hi0]
  rw [hrow] at hset
  have hlen : (ls.set 0 ⟨ys⟩).length = ls.length := List.length_set
  rw [← hlen] at hset ⊢
  refine Lsts.ofRow (lo := B) (lo2 := B) hset (fun i hi' => ?_) (by omega) B (Nat.le_refl _) (Nat.le_refl _)
  rw [hlen] at hi'
  rw [lstAt_set _ _ _ _ h0]
  by_cases hi0 : i = 0
  ·
   rw [if_pos hi0, if_pos hi0]
   exact (hO.keepS ks (fun g hg => by rw [ez] at hg; cases hg; exact nz)).ints (by show ys.length ≤ _; omega)
  ·
   rw [if_neg hi0, if_neg hi0]
   obtain ⟨p1, q1⟩ := il i hi'
   exact ((p1.keepS kk (fun g hg => (al_ i hi' g hg).2.2.2.2 hi0)).keepS ks (fun g hg => (al_ i hi' g hg).2.2.1)).ints (by omega)
/-- a tensor takes the place of the first -/
theorem Trio.putT {n0 : Nat} {u1 u2 : Value} {x : Ten} (h : Trio w B hi tv lv av ts ls al RT RL bt bl ba b0) (h0 : 0 < ts.length) (hl : ls.length ≤ 1000) (ht : ts.length ≤ 1000) (hn : hi ≤ n0)
  (i1 : Ints w n0 u1 x.s) (i2 : Ints w n0 u2 x.t) :
  Tens ((w.setCell ⟨bt, 0, none⟩ u1).setCell ⟨bt, 1, none⟩ u2) B tv (ts.set 0 x) ∧ Lsts ((w.setCell ⟨bt, 0, none⟩ u1).setCell ⟨bt, 1, none⟩ u2) B lv ls := by
 have eT := h.tform
 have eL := h.lform
 obtain ⟨ot, ol, oa, et, el, ea, ne, lt, it, at_, il, al_, first⟩ := h
 obtain ⟨c1, e1⟩ := eT
 obtain ⟨c2, e2⟩ := eL
 have k1 : Keep (fun g => g = bt) w (w.setCell ⟨bt, 0, none⟩ u1) := .of_set rfl
 have k2 : Keep (fun g => g = bt) (w.setCell ⟨bt, 0, none⟩ u1) ((w.setCell ⟨bt, 0, none⟩ u1).setCell ⟨bt, 1, none⟩ u2) := .of_set rfl
 have c1' : Chg bt (bt + 1) w ((w.setCell ⟨bt, 0, none⟩ u1).setCell ⟨bt, 1, none⟩ u2) := ((Chg.refl bt (bt + 1) w).setCell (p := ⟨bt, 0, none⟩) (Nat.le_refl _) (Nat.lt_succ_self _) u1).setCell (p := ⟨bt, 1, none⟩) (Nat.le_refl _) (Nat.lt_succ_self _) u2
 constructor
 ·
  subst e1
  have s1 := ot.setM (by rw [rowCT_len]) 0 0 (by rw [rowCT_len]; exact h0) (by omega) u1
  rw [Nat.zero_mul, Nat.zero_add] at s1
  have s2 := s1.setM (by rw [List.length_set, rowCT_len]) 0 1 (by rw [List.length_set, rowCT_len]; exact h0) (by omega) u2
  rw [Nat.zero_mul, Nat.zero_add] at s2
  have hrow : rowCT (ts.set 0 x) (fun p => if p = 0 then u1 else if p = 1 then u2 else RT p) = ((rowCT ts RT).set 0 (((rowCT ts RT)[0]'(by rw [rowCT_len]; exact h0)).set 0 u1)).set 0 ((((rowCT ts RT).set 0 (((rowCT ts RT)[0]'(by rw [rowCT_len]; exact h0)).set 0 u1))[0]'(by rw [List.length_set, rowCT_len]; exact h0)).set 1 u2) := by
   refine List.ext_getElem (by simp [rowCT]) fun i h1 h2 => ?_
   rw [rowCT_get]
   by_cases hi0 : i = 0
   ·
    subst hi0; simp [erowCT, rowCT]
   ·
    rw [List.getElem_set_ne (by omega), List.getElem_set_ne (by omega), rowCT_get]
    unfold erowCT; rw [if_neg (by omega), if_neg (by omega), if_neg (by omega), if_neg (by omega)]
  rw [← hrow] at s2
  have hlen : (ts.set 0 x).length = ts.length := List.length_set
  rw [← hlen] at s2 ⊢
  have hBB := (ot.blkM bt et).1
  refine Tens.ofRow (lo := B) (lo2 := B) s2 (fun i hi' => ?_) (by omega) B (Nat.le_refl _) (Nat.le_refl _)
  rw [hlen] at hi'
  rw [tenAt_set _ _ _ _ h0]
  by_cases hi0 : i = 0
  ·
   subst hi0
   rw [if_pos rfl, if_pos rfl, if_neg (by omega), if_pos (by omega)]
   exact ⟨(i1.chg c1' (by omega)).lower (by omega), (i2.chg c1' (by omega)).lower (by omega)⟩
  ·
   rw [if_neg hi0, if_neg (by omega), if_neg (by omega), if_neg (by omega), if_neg (by omega)]
   obtain ⟨⟨p1, q1⟩, p2, q2⟩ := it i hi'
   exact ⟨(((p1.keepS k1 (fun g hg => (at_ (2 * i) (by omega) g hg).2.1)).keepS k2 (fun g hg => (at_ (2 * i) (by omega) g hg).2.1)).ints (by omega)), (((p2.keepS k1 (fun g hg => (at_ (2 * i + 1) (by omega) g hg).2.1)).keepS k2 (fun g hg => (at_ (2 * i + 1) (by omega) g hg).2.1)).ints (by omega))⟩
 ·
  subst e2
  refine Lsts.ofRow (lo := B) (lo2 := B) (R := RL) ((ol.keepS k1 ?_).keepS k2 ?_) (fun i hi' => ?_) (by omega) B (Nat.le_refl _) (Nat.le_refl _)
  ·
   intro g hg; rw [el] at hg; cases hg; exact Ne.symm ne.1
  ·
   intro g hg; rw [el] at hg; cases hg; exact Ne.symm ne.1
  ·
   obtain ⟨p1, q1⟩ := il i hi'
   exact ((p1.keepS k1 (fun g hg => (al_ i hi' g hg).2.1)).keepS k2 (fun g hg => (al_ i hi' g hg).2.1)).ints (by omega)
end
/-- an append changes one block -/
theorem grown_chg {w w' : World} {g : Nat} (hg : w.grownBy w' (some g)) : Chg g (g + 1) w w' :=
 ⟨hg.os, hg.tape, hg.output, hg.size, fun k hk hd => hg.block k hk (by intro h; cases h; omega)⟩
/-- the cells of a literal's row -/
theorem Ints.atz {w : World} {lo g n c : Nat} {xs : List Int} (h : Ints w lo (.slice (some ⟨g, 0, none⟩) n c) xs) (i : Nat) (hi : i < n) : w.cell? ⟨g, i, none⟩ = some (.int .i64 (xs.getD i 0)) := by
 obtain ⟨a, cap, hv, h1, h2, h3, h4⟩ := h
 cases hv
 obtain ⟨b, off, ha, hb, hc, hf⟩ := h4 i hi
 cases ha
 rw [Nat.zero_add] at hc
 rw [hc]
theorem countX_c (xs : List Int) (v : Value) (w : World) (lo : Nat) (hv : Ints w lo v xs) : Calls Try.prog 111 #[v] w fun e w' => e = .returned (.int .i64 (countL xs)) ∧ Ext w w' :=
 (count_c xs v w lo hv).mono fun e w' h => ⟨h.1, h.2 ▸ Ext.refl _⟩
theorem placeInX_c (xs : List Int) (v : Value) (n : Int) (w : World) (lo : Nat) (hv : Ints w lo v xs) : Calls Try.prog 104 #[v, .int .i64 n] w fun e w' => ∃ p : Int, e = .returned (.int .i64 p) ∧ Ext w w' :=
 (placeIn_c xs v n w lo hv).mono fun e w' h => ⟨_, h.1, h.2 ▸ Ext.refl _⟩
/-- three empty literals -/
theorem Trio.made (w : World) (B bt bl ba b0 : Nat) (h1 : OwnC w B 29 2 (.slice (some ⟨bt, 0, none⟩) 0 0) []) (h2 : OwnC w B 23 1 (.slice (some ⟨bl, 0, none⟩) 0 0) []) (h3 : OwnI w B (.slice (some ⟨ba, 0, none⟩) 0 0) []) (ne : bt ≠ bl ∧ bt ≠ ba ∧ bl ≠ ba ∧ b0 ≠ bt ∧ b0 ≠ bl ∧ b0 ≠ ba) (lt : b0 < w.heap.size) :
  Trio w B w.heap.size (.slice (some ⟨bt, 0, none⟩) 0 0) (.slice (some ⟨bl, 0, none⟩) 0 0) (.slice (some ⟨ba, 0, none⟩) 0 0) [] [] [] (fun _ => .slice none 0 0) (fun _ => .slice none 0 0) bt bl ba b0 :=
 ⟨h1, h2, h3, rfl, rfl, rfl, ne, ⟨(h1.blkM bt rfl).2, (h2.blkM bl rfl).2, (h3.blkM ba rfl).2, lt, Nat.le_refl _⟩, fun i hi => absurd hi (by simp), fun i hi => absurd hi (by simp), fun i hi => absurd hi (by simp), fun i hi => absurd hi (by simp), fun h => absurd h (by simp)⟩
end Go.Proofs.Ytpgkhjmboiepcaa

/- Walks: a tensor that may be invalid is drawn. -/
namespace Go.Proofs.Ytpgkhjmboiepcaa
open Go.RowKit
set_option linter.unusedVariables false
set_option maxRecDepth 100000

/-- a row of its own whose block lies in lo .. up, or nil -/
structure RowIn (w : World) (lo up : Nat) (v : Value) (xs : List Int) : Prop where
 own : OwnI w lo v xs
 lt : ∀ g, v.ownBlock = some g → g < up
theorem RowIn.ext {w w' : World} {lo up : Nat} {v : Value} {xs : List Int} (h : RowIn w lo up v xs) (k : Ext w w') : RowIn w' lo up v xs := ⟨h.own.ext k, h.lt⟩
theorem RowIn.chgN {w w' : World} {lo up l u : Nat} {v : Value} {xs : List Int} (h : RowIn w lo up v xs) (k : Chg l u w w') (hu : up ≤ l ∨ u ≤ lo) : RowIn w' lo up v xs :=
 ⟨h.own.keepS (S := fun g => l ≤ g ∧ g < u) (.of_chg k (fun g h1 h2 => ⟨h1, h2⟩)) (fun g hg h2 => by have := (h.own.blkM g hg).1; have := h.lt g hg; omega), h.lt⟩
/-- a tensor is drawn, valid or not -/
def PSomeT (rb q : Nat) (w : World) (e : Ending) (w' : World) : Prop := ∃ (x : Ten) (u1 u2 : Option Addr) (c1 c2 : Nat), e = .returned (.agg #[.slice u1 x.s.length c1, .slice u2 x.t.length c2]) ∧
 Ints w' w.heap.size (.slice u1 x.s.length c1) x.s ∧ Ints w' w.heap.size (.slice u2 x.t.length c2) x.t ∧ x.s.length ≤ 1000 ∧ x.t.length ≤ 1000 ∧ Rd w' rb q ∧ Chg rb (rb + 1) w w'
set_option maxHeartbeats 6400000 in
theorem someTensor_c (rb k : Nat) (w : World) (hr : Rd w rb k) (hk : k ≤ 700000) :
  Calls Try.prog 118 #[.pointer (some ⟨rb, 0, none⟩)] w (PSomeT rb (k + 100) w) := by
 have hlt := hr.lt
 go_enter Try.func118, Try.ntmps118
 go_wp2_with fail
 generalize hW1 : w.alloc (.cells #[.slice none 0 0, .slice none 0 0] 29) = w1 at *
 have Lw1 : Ext w w1 := by subst hW1; exact qXt
 have Xw1 : Rch rb w w1 := Rch.ext (Rch.refl rb w) Lw1
 replace hr := hr.ext Lw1
 have q0 : w1.cell? ⟨w.heap.size, 0, none⟩ = some (.slice none 0 0) := by subst hW1; exact qCl
 have q1 : w1.cell? ⟨w.heap.size, 1, none⟩ = some (.slice none 0 0) := by subst hW1; exact qCl
 have f_q0 : w1.frozen? ⟨w.heap.size, 0, none⟩ = false := by subst hW1; exact qFz
 have f_q1 : w1.frozen? ⟨w.heap.size, 1, none⟩ = false := by subst hW1; exact qFz
 have z_q : w.heap.size < w1.heap.size := qB q0
 have s_w1 : w.heap.size ≤ w1.heap.size := Xw1.size
 clear hW1
 refine (goodShapeC_c rb _ _ hr (by omega)).mono ?_
 rintro e w2 ⟨v, s, rfl, O0, hs4, hcs, Rw2, Cw2⟩
 have zc_w2 := Cw2.size
 have Xw2 : Rch rb w w2 := Rch.step (Xw1) Cw2
 replace q0 := Cw2.cell (by omega) q0
 replace f_q0 := Cw2.frzO (by omega) (by omega) f_q0
 replace q1 := Cw2.cell (by omega) q1
 replace f_q1 := Cw2.frzO (by omega) (by omega) f_q1
 have z_q : w.heap.size < w2.heap.size := qB q0
 have s_w2 : w.heap.size ≤ w2.heap.size := Xw2.size
 clear hr Cw2
 obtain ⟨p1, c1, rfl⟩ := (O0.ints (by omega)).form
 replace O0 := Lib.hid (O0.ints (by omega))
 go_wp2_with fail
 refine (tensorFor_c s _ rb _ _ _ Rw2 (by omega) O0.out (by omega) hcs.2).mono ?_
 rintro e w3 ⟨gu, ru, pv, cv, xs, m, rfl, O1, hgu, OV, hx60, Rw3, Cw3⟩
 have zc_w3 := Cw3.size
 have Xw3 : Rch rb w w3 := Rch.step (Xw2) Cw3
 replace q0 := Cw3.cell (by omega) q0
 replace f_q0 := Cw3.frzO (by omega) (by omega) f_q0
 replace q1 := Cw3.cell (by omega) q1
 replace f_q1 := Cw3.frzO (by omega) (by omega) f_q1
 have z_q : w.heap.size < w3.heap.size := qB q0
 have s_w3 : w.heap.size ≤ w3.heap.size := Xw3.size
 clear Rw2 Cw3
 clear O0 hcs
 obtain ⟨hgu1, hgu2⟩ := hgu
 have hgu3 := (World.ownsRow.lt O1 gu rfl).2
 have hvb := Lib.hid (World.ownsRow.lt OV)
 have hm0 : w.heap.size ≤ gu := by omega
 go_wp2_with fail
 generalize hW2 : w3.alloc (.cells #[.slice (some ⟨gu, 0, none⟩) s.length ru, .slice pv xs.length cv] 29) = w4 at *
 have Lw4 : Ext w3 w4 := by subst hW2; exact qXt
 have Xw4 : Rch rb w w4 := Rch.ext Xw3 Lw4
 replace Rw3 := Rw3.ext Lw4
 replace q0 := Lw4.cell q0
 replace q1 := Lw4.cell q1
 replace f_q0 := Lw4.frz z_q f_q0
 replace f_q1 := Lw4.frz z_q f_q1
 have y0 : w4.cell? ⟨w3.heap.size, 0, none⟩ = some (.slice (some ⟨gu, 0, none⟩) s.length ru) := by subst hW2; exact qCl
 have y1 : w4.cell? ⟨w3.heap.size, 1, none⟩ = some (.slice pv xs.length cv) := by subst hW2; exact qCl
 have f_y0 : w4.frozen? ⟨w3.heap.size, 0, none⟩ = false := by subst hW2; exact qFz
 have f_y1 : w4.frozen? ⟨w3.heap.size, 1, none⟩ = false := by subst hW2; exact qFz
 have z_q : w.heap.size < w4.heap.size := qB q0
 have z_y : w3.heap.size < w4.heap.size := qB y0
 replace O1 := O1.ext Lw4
 replace OV := OV.ext Lw4
 have s_w4 : w.heap.size ≤ w4.heap.size := Xw4.size
 clear hW2
 refine (pick1_c 24 _ _ _ Rw3 (by omega) (by omega)).mono ?_
 rintro e w5 ⟨y, rfl, hy, Rw5, Cw5⟩
 have zc_w5 := Cw5.size
 have Xw5 : Rch rb w w5 := Rch.step (Xw4) Cw5
 replace q0 := Cw5.cell (by omega) q0
 replace f_q0 := Cw5.frzO (by omega) (by omega) f_q0
 replace q1 := Cw5.cell (by omega) q1
 replace f_q1 := Cw5.frzO (by omega) (by omega) f_q1
 replace y0 := Cw5.cell (by omega) y0
 replace f_y0 := Cw5.frzO (by omega) (by omega) f_y0
 replace y1 := Cw5.cell (by omega) y1
 replace f_y1 := Cw5.frzO (by omega) (by omega) f_y1
 have z_q : w.heap.size < w5.heap.size := qB q0
 have z_y : w3.heap.size < w5.heap.size := qB y0
 replace O1 := O1.chgN Cw5 (by omega)
 replace OV := OV.chg Cw5 (by omega)
 have s_w5 : w.heap.size ≤ w5.heap.size := Xw5.size
 clear Rw3 Cw5
 clear hy
 replace OV : RowIn w5 m w3.heap.size (.slice pv xs.length cv) xs := ⟨OV, fun g hg => (hvb.out g hg).2⟩
 have hgy : w.heap.size < w3.heap.size := by omega
 generalize w3.heap.size = gy at *
 have z_q : w.heap.size < w5.heap.size := qB q0
 have z_y : gy < w5.heap.size := qB y0
 by_cases c0 : y = 0
 ·
  subst c0
  rcases OV.own.2 with ⟨hnv, hnl⟩ | ⟨gv, cap, cur, hvv, -⟩
  ·
   injection hnv with na nb nc
   subst na
   subst nc
   obtain rfl : xs = [] := List.eq_nil_of_length_eq_zero nb
   clear nb hnl hvb
   go_wp2_with (
    at_builtin
    refine wpList_app rfl (.tmp 13) (.tmp 14) rfl rfl rfl (OwnI.nil _ w5.heap.size) (Ints.one _ 0 _ (Nat.zero_le _)) (by simp) (by simp <;> omega) ?_
    intro vw6 w6 ho hgr hbl hvb
    have Ew6 : Ext w5 w6 := Ext.below qXt hbl (Nat.le_refl _)
    obtain ⟨pw, cw, rfl⟩ : ∃ a c, vw6 = .slice a 1 c := by obtain ⟨a, c, h⟩ := (ho.ints (by simp)).form; exact ⟨a, c, by rw [h]; simp⟩
    clear hgr hbl hvb
    have Xw6 : Rch rb w w6 := Xw5.ext Ew6
    replace q0 := Ew6.cell q0
    replace f_q0 := Ew6.frz z_q f_q0
    replace q1 := Ew6.cell q1
    replace f_q1 := Ew6.frz z_q f_q1
    replace y0 := Ew6.cell y0
    replace f_y0 := Ew6.frz z_y f_y0
    replace y1 := Ew6.cell y1
    replace f_y1 := Ew6.frz z_y f_y1
    have z_q : w.heap.size < w6.heap.size := qB q0
    have z_y : gy < w6.heap.size := qB y0
    replace Rw5 := Rw5.ext Ew6
    replace O1 := O1.ext Ew6
    have e_w6 := Ew6.size
    clear OV
    have s_w6 : w.heap.size ≤ w6.heap.size := Xw6.size
    clear Ew6)
   generalize hW3 : (w6.setCell ⟨gy, 1, none⟩ (.slice pw 1 cw)) = w7 at *
   have Kw7 : Chg (gy) (gy + 1) w6 w7 := by subst hW3; exact qCh
   have Xw7 : Rch rb w w7 := by subst hW3; exact qRt
   replace Rw5 := (Rd.set2 (a := ⟨gy, 1, none⟩) (u := .slice pw 1 cw) (show rb < gy by omega) Rw5)
   rw [hW3] at Rw5
   replace q0 := Kw7.cell (by omega) q0
   replace f_q0 := Kw7.frzO (by omega) z_q f_q0
   replace q1 := Kw7.cell (by omega) q1
   replace f_q1 := Kw7.frzO (by omega) z_q f_q1
   replace y0 : w7.cell? ⟨gy, 0, none⟩ = some (.slice (some ⟨gu, 0, none⟩) s.length ru) := by subst hW3; go_simp
   replace f_y0 : w7.frozen? ⟨gy, 0, none⟩ = false := by subst hW3; first | (simp only [World.frozen?_setCell]; with_reducible assumption) | go_simp
   replace y1 : w7.cell? ⟨gy, 1, none⟩ = some (.slice pw 1 cw) := by subst hW3; go_simp
   replace f_y1 : w7.frozen? ⟨gy, 1, none⟩ = false := by subst hW3; first | (simp only [World.frozen?_setCell]; with_reducible assumption) | go_simp
   replace O1 := O1.chgN Kw7 (by omega)
   replace ho := ho.chg Kw7 (by omega)
   clear Kw7
   have z_q : w.heap.size < w7.heap.size := qB q0
   have z_y : gy < w7.heap.size := qB y0
   have s_w7 : w.heap.size ≤ w7.heap.size := Xw7.size
   clear hW3
   generalize hW4 : ((w7.setCell ⟨w.heap.size, 0, none⟩ (.slice (some ⟨gu, 0, none⟩) s.length ru)).setCell ⟨w.heap.size, 1, none⟩ (.slice pw 1 cw)) = w8 at *
   have Kw8 : Chg (w.heap.size) (w.heap.size + 1) w7 w8 := by subst hW4; exact qCh
   have Xw8 : Rch rb w w8 := by subst hW4; exact qRt
   replace Rw5 := (Rd.set2 (a := ⟨w.heap.size, 1, none⟩) (u := .slice pw 1 cw) (show rb < w.heap.size by omega) (Rd.set2 (a := ⟨w.heap.size, 0, none⟩) (u := .slice (some ⟨gu, 0, none⟩) s.length ru) (show rb < w.heap.size by omega) Rw5))
   rw [hW4] at Rw5
   replace q0 : w8.cell? ⟨w.heap.size, 0, none⟩ = some (.slice (some ⟨gu, 0, none⟩) s.length ru) := by subst hW4; go_simp
   replace f_q0 : w8.frozen? ⟨w.heap.size, 0, none⟩ = false := by subst hW4; first | (simp only [World.frozen?_setCell]; with_reducible assumption) | go_simp
   replace q1 : w8.cell? ⟨w.heap.size, 1, none⟩ = some (.slice pw 1 cw) := by subst hW4; go_simp
   replace f_q1 : w8.frozen? ⟨w.heap.size, 1, none⟩ = false := by subst hW4; first | (simp only [World.frozen?_setCell]; with_reducible assumption) | go_simp
   replace y0 := Kw8.cell (by omega) y0
   replace f_y0 := Kw8.frzO (by omega) z_y f_y0
   replace y1 := Kw8.cell (by omega) y1
   replace f_y1 := Kw8.frzO (by omega) z_y f_y1
   replace O1 := O1.chgN Kw8 (by omega)
   replace ho := ho.chg Kw8 (by omega)
   clear Kw8
   have z_q : w.heap.size < w8.heap.size := qB q0
   have z_y : gy < w8.heap.size := qB y0
   have s_w8 : w.heap.size ≤ w8.heap.size := Xw8.size
   clear hW4
   refine bodyPost_ret (v := .agg #[.slice (some ⟨gu, 0, none⟩) s.length ru, .slice pw 1 cw]) (by simp only [results, Try.results118]; go_simp) rfl ?_
   exact ⟨⟨s, [1]⟩, _, _, _, _, rfl, (O1.ints (by omega)).lower (by omega), (ho.ints (by simp)).lower (by omega), (by simp <;> omega), (by simp <;> omega), Rw5.mono (by omega), Xw8⟩
  ·
   obtain ⟨rfl, -, rfl⟩ : pv = some ⟨gv, 0, none⟩ ∧ xs.length = xs.length ∧ cv = cap := by injection hvv with h1 h2 h3; exact ⟨h1, rfl, h3⟩
   obtain ⟨hv1, hv2⟩ := hvb.out gv rfl
   clear hvv hvb
   replace OV := OV.own
   go_wp2_with (
    at_builtin
    refine wpList_app rfl (.tmp 13) (.tmp 14) rfl rfl rfl (OV.ext ((Ext.refl _).alloc _)) (Ints.one _ 0 _ (Nat.zero_le _)) (by simp <;> omega) (by simp <;> omega) ?_
    intro vw6 w6 ho hgr hbl hvb
    obtain ⟨gw6, nw6, cw6, rfl, hnw6, Gw6, Gw6'⟩ := ho.row2 (by simp)
    have Bw6 := own_or hvb
    simp only [World.size_alloc] at Bw6
    have Kw6 : Chg (gv) (gv + 1) w5 w6 := chg_grown hgr
    have Xw6 : Rch rb w w6 := Rch.below' Xw5 Kw6 (by omega)
    replace Rw5 := Rw5.chgO Kw6 (by omega)
    replace q0 := Kw6.cell (by omega) q0
    replace f_q0 := Kw6.frzO (by omega) z_q f_q0
    replace q1 := Kw6.cell (by omega) q1
    replace f_q1 := Kw6.frzO (by omega) z_q f_q1
    replace y0 := Kw6.cell (by omega) y0
    replace f_y0 := Kw6.frzO (by omega) z_y f_y0
    replace y1 := Kw6.cell (by omega) y1
    replace f_y1 := Kw6.frzO (by omega) z_y f_y1
    have z_q : w.heap.size < w6.heap.size := qB q0
    have z_y : gy < w6.heap.size := qB y0
    replace O1 := O1.chgN Kw6 (by omega)
    clear OV
    have OV := ho
    have s_w6 : w.heap.size ≤ w6.heap.size := Xw6.size
    clear ho hgr hbl hvb Kw6)
   generalize hW5 : (w6.setCell ⟨gy, 1, none⟩ (.slice (some ⟨gw6, 0, none⟩) nw6 cw6)) = w7 at *
   have Kw7 : Chg (gy) (gy + 1) w6 w7 := by subst hW5; exact qCh
   have Xw7 : Rch rb w w7 := by subst hW5; exact qRt
   replace Rw5 := (Rd.set2 (a := ⟨gy, 1, none⟩) (u := .slice (some ⟨gw6, 0, none⟩) nw6 cw6) (show rb < gy by omega) Rw5)
   rw [hW5] at Rw5
   replace q0 := Kw7.cell (by omega) q0
   replace f_q0 := Kw7.frzO (by omega) z_q f_q0
   replace q1 := Kw7.cell (by omega) q1
   replace f_q1 := Kw7.frzO (by omega) z_q f_q1
   replace y0 : w7.cell? ⟨gy, 0, none⟩ = some (.slice (some ⟨gu, 0, none⟩) s.length ru) := by subst hW5; go_simp
   replace f_y0 : w7.frozen? ⟨gy, 0, none⟩ = false := by subst hW5; first | (simp only [World.frozen?_setCell]; with_reducible assumption) | go_simp
   replace y1 : w7.cell? ⟨gy, 1, none⟩ = some (.slice (some ⟨gw6, 0, none⟩) nw6 cw6) := by subst hW5; go_simp
   replace f_y1 : w7.frozen? ⟨gy, 1, none⟩ = false := by subst hW5; first | (simp only [World.frozen?_setCell]; with_reducible assumption) | go_simp
   replace O1 := O1.chgN Kw7 (by omega)
   replace OV := OV.chgN Kw7 (by omega)
   clear Kw7
   have z_q : w.heap.size < w7.heap.size := qB q0
   have z_y : gy < w7.heap.size := qB y0
   have s_w7 : w.heap.size ≤ w7.heap.size := Xw7.size
   clear hW5
   obtain ⟨u2, z2, e2⟩ := (OV.ints (by simp; omega)).form
   injection e2 with e2a e2b e2c
   subst e2b
   clear e2a e2c
   generalize hW6 : ((w7.setCell ⟨w.heap.size, 0, none⟩ (.slice (some ⟨gu, 0, none⟩) s.length ru)).setCell ⟨w.heap.size, 1, none⟩ (.slice (some ⟨gw6, 0, none⟩) (xs ++ [1]).length cw6)) = w8 at *
   have Kw8 : Chg (w.heap.size) (w.heap.size + 1) w7 w8 := by subst hW6; exact qCh
   have Xw8 : Rch rb w w8 := by subst hW6; exact qRt
   replace Rw5 := (Rd.set2 (a := ⟨w.heap.size, 1, none⟩) (u := .slice (some ⟨gw6, 0, none⟩) (xs ++ [1]).length cw6) (show rb < w.heap.size by omega) (Rd.set2 (a := ⟨w.heap.size, 0, none⟩) (u := .slice (some ⟨gu, 0, none⟩) s.length ru) (show rb < w.heap.size by omega) Rw5))
   rw [hW6] at Rw5
   replace q0 : w8.cell? ⟨w.heap.size, 0, none⟩ = some (.slice (some ⟨gu, 0, none⟩) s.length ru) := by subst hW6; go_simp
   replace f_q0 : w8.frozen? ⟨w.heap.size, 0, none⟩ = false := by subst hW6; first | (simp only [World.frozen?_setCell]; with_reducible assumption) | go_simp
   replace q1 : w8.cell? ⟨w.heap.size, 1, none⟩ = some (.slice (some ⟨gw6, 0, none⟩) (xs ++ [1]).length cw6) := by subst hW6; go_simp
   replace f_q1 : w8.frozen? ⟨w.heap.size, 1, none⟩ = false := by subst hW6; first | (simp only [World.frozen?_setCell]; with_reducible assumption) | go_simp
   replace y0 := Kw8.cell (by omega) y0
   replace f_y0 := Kw8.frzO (by omega) z_y f_y0
   replace y1 := Kw8.cell (by omega) y1
   replace f_y1 := Kw8.frzO (by omega) z_y f_y1
   replace O1 := O1.chgN Kw8 (by omega)
   replace OV := OV.chgN Kw8 (by omega)
   clear Kw8
   have z_q : w.heap.size < w8.heap.size := qB q0
   have z_y : gy < w8.heap.size := qB y0
   have s_w8 : w.heap.size ≤ w8.heap.size := Xw8.size
   clear hW6
   refine bodyPost_ret (v := .agg #[.slice (some ⟨gu, 0, none⟩) s.length ru, .slice (some ⟨gw6, 0, none⟩) (xs ++ [1]).length cw6]) (by simp only [results, Try.results118]; go_simp) rfl ?_
   exact ⟨⟨s, xs ++ [1]⟩, _, _, _, _, rfl, (O1.ints (by omega)).lower (by omega), (OV.ints (by simp; omega)).lower (by omega), (by simp <;> omega), (by simp <;> omega), Rw5.mono (by omega), Xw8⟩
 ·
  by_cases c1 : y = 1
  ·
   subst c1
   clear c0
   go_wp2_with (
    at_builtin
    refine wpList_app rfl (.tmp 20) (.tmp 21) rfl rfl rfl (O1.ext ((Ext.refl _).alloc _)) (Ints.one _ 0 _ (Nat.zero_le _)) (by simp <;> omega) (by simp <;> omega) ?_
    intro vw6 w6 ho hgr hbl hvb
    obtain ⟨gw6, nw6, cw6, rfl, hnw6, Gw6, Gw6'⟩ := ho.row2 (by simp)
    have Bw6 := own_or hvb
    simp only [World.size_alloc] at Bw6
    have Kw6 : Chg (gu) (gu + 1) w5 w6 := chg_grown hgr
    have Xw6 : Rch rb w w6 := Rch.below' Xw5 Kw6 (by omega)
    replace Rw5 := Rw5.chgO Kw6 (by omega)
    replace q0 := Kw6.cell (by omega) q0
    replace f_q0 := Kw6.frzO (by omega) z_q f_q0
    replace q1 := Kw6.cell (by omega) q1
    replace f_q1 := Kw6.frzO (by omega) z_q f_q1
    replace y0 := Kw6.cell (by omega) y0
    replace f_y0 := Kw6.frzO (by omega) z_y f_y0
    replace y1 := Kw6.cell (by omega) y1
    replace f_y1 := Kw6.frzO (by omega) z_y f_y1
    have z_q : w.heap.size < w6.heap.size := qB q0
    have z_y : gy < w6.heap.size := qB y0
    replace OV := OV.chgN Kw6 (by omega)
    clear O1
    have O1 := ho
    have s_w6 : w.heap.size ≤ w6.heap.size := Xw6.size
    clear ho hgr hbl hvb Kw6)
   generalize hW7 : (w6.setCell ⟨gy, 0, none⟩ (.slice (some ⟨gw6, 0, none⟩) nw6 cw6)) = w7 at *
   have Kw7 : Chg (gy) (gy + 1) w6 w7 := by subst hW7; exact qCh
   have Xw7 : Rch rb w w7 := by subst hW7; exact qRt
   replace Rw5 := (Rd.set2 (a := ⟨gy, 0, none⟩) (u := .slice (some ⟨gw6, 0, none⟩) nw6 cw6) (show rb < gy by omega) Rw5)
   rw [hW7] at Rw5
   replace q0 := Kw7.cell (by omega) q0
   replace f_q0 := Kw7.frzO (by omega) z_q f_q0
   replace q1 := Kw7.cell (by omega) q1
   replace f_q1 := Kw7.frzO (by omega) z_q f_q1
   replace y0 : w7.cell? ⟨gy, 0, none⟩ = some (.slice (some ⟨gw6, 0, none⟩) nw6 cw6) := by subst hW7; go_simp
   replace f_y0 : w7.frozen? ⟨gy, 0, none⟩ = false := by subst hW7; first | (simp only [World.frozen?_setCell]; with_reducible assumption) | go_simp
   replace y1 : w7.cell? ⟨gy, 1, none⟩ = some (.slice pv xs.length cv) := by subst hW7; go_simp
   replace f_y1 : w7.frozen? ⟨gy, 1, none⟩ = false := by subst hW7; first | (simp only [World.frozen?_setCell]; with_reducible assumption) | go_simp
   replace O1 := O1.chgN Kw7 (by omega)
   replace OV := OV.chgN Kw7 (by omega)
   clear Kw7
   have z_q : w.heap.size < w7.heap.size := qB q0
   have z_y : gy < w7.heap.size := qB y0
   have s_w7 : w.heap.size ≤ w7.heap.size := Xw7.size
   clear hW7
   obtain ⟨u2, z2, e2⟩ := (O1.ints (by simp; omega)).form
   injection e2 with e2a e2b e2c
   subst e2b
   clear e2a e2c
   generalize hW8 : ((w7.setCell ⟨w.heap.size, 0, none⟩ (.slice (some ⟨gw6, 0, none⟩) (s ++ [-1]).length cw6)).setCell ⟨w.heap.size, 1, none⟩ (.slice pv xs.length cv)) = w8 at *
   have Kw8 : Chg (w.heap.size) (w.heap.size + 1) w7 w8 := by subst hW8; exact qCh
   have Xw8 : Rch rb w w8 := by subst hW8; exact qRt
   replace Rw5 := (Rd.set2 (a := ⟨w.heap.size, 1, none⟩) (u := .slice pv xs.length cv) (show rb < w.heap.size by omega) (Rd.set2 (a := ⟨w.heap.size, 0, none⟩) (u := .slice (some ⟨gw6, 0, none⟩) (s ++ [-1]).length cw6) (show rb < w.heap.size by omega) Rw5))
   rw [hW8] at Rw5
   replace q0 : w8.cell? ⟨w.heap.size, 0, none⟩ = some (.slice (some ⟨gw6, 0, none⟩) (s ++ [-1]).length cw6) := by subst hW8; go_simp
   replace f_q0 : w8.frozen? ⟨w.heap.size, 0, none⟩ = false := by subst hW8; first | (simp only [World.frozen?_setCell]; with_reducible assumption) | go_simp
   replace q1 : w8.cell? ⟨w.heap.size, 1, none⟩ = some (.slice pv xs.length cv) := by subst hW8; go_simp
   replace f_q1 : w8.frozen? ⟨w.heap.size, 1, none⟩ = false := by subst hW8; first | (simp only [World.frozen?_setCell]; with_reducible assumption) | go_simp
   replace y0 := Kw8.cell (by omega) y0
   replace f_y0 := Kw8.frzO (by omega) z_y f_y0
   replace y1 := Kw8.cell (by omega) y1
   replace f_y1 := Kw8.frzO (by omega) z_y f_y1
   replace O1 := O1.chgN Kw8 (by omega)
   replace OV := OV.chgN Kw8 (by omega)
   clear Kw8
   have z_q : w.heap.size < w8.heap.size := qB q0
   have z_y : gy < w8.heap.size := qB y0
   have s_w8 : w.heap.size ≤ w8.heap.size := Xw8.size
   clear hW8
   refine bodyPost_ret (v := .agg #[.slice (some ⟨gw6, 0, none⟩) (s ++ [-1]).length cw6, .slice pv xs.length cv]) (by simp only [results, Try.results118]; go_simp) rfl ?_
   exact ⟨⟨s ++ [-1], xs⟩, _, _, _, _, rfl, (O1.ints (by simp; omega)).lower (by omega), (OV.own.ints (by omega)).lower (by omega), (by simp <;> omega), (by simp <;> omega), Rw5.mono (by omega), Xw8⟩
  ·
   have z0 : (y == 0) = false := by simpa using c0
   have z1 : (y == 1) = false := by simpa using c1
   go_wp2_with fail
   generalize hW9 : ((w5.setCell ⟨w.heap.size, 0, none⟩ (.slice (some ⟨gu, 0, none⟩) s.length ru)).setCell ⟨w.heap.size, 1, none⟩ (.slice pv xs.length cv)) = w6 at *
   have Kw6 : Chg (w.heap.size) (w.heap.size + 1) w5 w6 := by subst hW9; exact qCh
   have Xw6 : Rch rb w w6 := by subst hW9; exact qRt
   replace Rw5 := (Rd.set2 (a := ⟨w.heap.size, 1, none⟩) (u := .slice pv xs.length cv) (show rb < w.heap.size by omega) (Rd.set2 (a := ⟨w.heap.size, 0, none⟩) (u := .slice (some ⟨gu, 0, none⟩) s.length ru) (show rb < w.heap.size by omega) Rw5))
   rw [hW9] at Rw5
   replace q0 : w6.cell? ⟨w.heap.size, 0, none⟩ = some (.slice (some ⟨gu, 0, none⟩) s.length ru) := by subst hW9; go_simp
   replace f_q0 : w6.frozen? ⟨w.heap.size, 0, none⟩ = false := by subst hW9; first | (simp only [World.frozen?_setCell]; with_reducible assumption) | go_simp
   replace q1 : w6.cell? ⟨w.heap.size, 1, none⟩ = some (.slice pv xs.length cv) := by subst hW9; go_simp
   replace f_q1 : w6.frozen? ⟨w.heap.size, 1, none⟩ = false := by subst hW9; first | (simp only [World.frozen?_setCell]; with_reducible assumption) | go_simp
   replace y0 := Kw6.cell (by omega) y0
   replace f_y0 := Kw6.frzO (by omega) z_y f_y0
   replace y1 := Kw6.cell (by omega) y1
   replace f_y1 := Kw6.frzO (by omega) z_y f_y1
   replace O1 := O1.chgN Kw6 (by omega)
   replace OV := OV.chgN Kw6 (by omega)
   clear Kw6
   have z_q : w.heap.size < w6.heap.size := qB q0
   have z_y : gy < w6.heap.size := qB y0
   have s_w6 : w.heap.size ≤ w6.heap.size := Xw6.size
   clear hW9
   refine bodyPost_ret (v := .agg #[.slice (some ⟨gu, 0, none⟩) s.length ru, .slice pv xs.length cv]) (by simp only [results, Try.results118]; go_simp) rfl ?_
   exact ⟨⟨s, xs⟩, _, _, _, _, rfl, (O1.ints (by omega)).lower (by omega), (OV.own.ints (by omega)).lower (by omega), (by simp <;> omega), (by simp <;> omega), Rw5.mono (by omega), Xw6⟩

end Go.Proofs.Ytpgkhjmboiepcaa

/- Walks: OffsetsOf and IsRow of the program and of the reference. -/
namespace Go.Proofs.Ytpgkhjmboiepcaa
open Go.RowKit
set_option linter.unusedVariables false
set_option maxRecDepth 100000


def offA (b : Int) (s t : List Int) : List Int := if viewB b s t then offsL b s t else []
end Go.Proofs.Ytpgkhjmboiepcaa

/- Walks: rowStrides of the program. -/
namespace Go.Proofs.Ytpgkhjmboiepcaa
open Go.RowKit
set_option linter.unusedVariables false
set_option maxRecDepth 100000

theorem rowS_at (xs : List Int) (j : Nat) (h : j < xs.length) : ((rowS xs).take j ++ List.replicate (xs.length - j) 0).set j (prodL (xs.drop (j+1))) = (rowS xs).take (j+1) ++ List.replicate (xs.length - (j+1)) 0 := by
  have hl := rowS_len xs
  have hg : (rowS xs)[j]'(by omega) = prodL (xs.drop (j+1)) := by
    induction xs generalizing j with
    | nil => simp at h
    | cons x xs ih =>
      cases j with
      | zero => rfl
      | succ j => simpa [rowS] using ih j (by simpa using h) (rowS_len xs)
  have e : xs.length - j = (xs.length - (j+1)) + 1 := by omega
  have ht : ((rowS xs).take j).length = j := by simp; omega
  rw [e, List.replicate_succ, List.set_append_right _ _ (by omega), ht, Nat.sub_self, List.set_cons_zero, List.take_succ_eq_append_getElem (by omega), hg]
  simp

end Go.Proofs.Ytpgkhjmboiepcaa

/- Helpers of the laws: equal lists, equal views, a number in a list. -/
namespace Go.Proofs.Ytpgkhjmboiepcaa
open Go.RowKit
set_option linter.unusedVariables false
set_option maxRecDepth 100000



set_option maxHeartbeats 1600000 in
theorem leqInts_c (xs : List Int) (a b : Value) (w : World) (la lb : Nat) (ha : Ints w la a xs) (hb : Ints w lb b xs) :
    Calls Try.prog 15 #[a, b] w fun e w' => e = .returned (.bool true) ∧ Ext w w' := by
  obtain ⟨a1, cap1, rfl, _, _, ⟨hlen, _⟩, hc1⟩ := ha
  obtain ⟨a2, cap2, rfl, _, _, ⟨hlen2, _⟩, hc2⟩ := hb
  go_enter Try.func15, Try.ntmps15
  go_wp2_with fail
  go_loopw [5] (fun i wr => ∃ k m : Nat, k ≤ xs.length ∧ i = .int .i64 k ∧ wr = w.drewN m) (fun i _ => xs.length - (intOf i).toNat)
  case atStart => exact ⟨0, 0, Nat.zero_le _, rfl, rfl⟩
  case round =>
    obtain ⟨k, m, hk, rfl, rfl⟩ := hrel
    by_cases hlt : k < xs.length
    · obtain ⟨b1, off1, rfl, _, hcell1, _⟩ := hc1 k hlt
      obtain ⟨b2, off2, rfl, _, hcell2, _⟩ := hc2 k hlt
      have hk4 : (k : Int) < xs.length := by omega
      clear hc1 hc2
      generalize xs.getD k 0 = x at *
      go_wp2_with fail
      go_quiet (fail)
      go_wp2_with fail
      go_roundw
      case rel => exact ⟨k+1, _, by omega, by go_num, rfl⟩
      case measure => simp [intOf]; omega
    · obtain rfl : k = xs.length := by omega
      go_wp2_with fail
      go_ret
      exact ⟨rfl, qXo⟩

set_option maxHeartbeats 1600000 in
theorem isIn_c (xs : List Int) (n : Int) (a : Value) (w : World) (la : Nat) (ha : Ints w la a xs) :
    Calls Try.prog 32 #[a, .int .i64 n] w fun e w' => e = .returned (.bool (decide (n ∈ xs))) ∧ Ext w w' := by
  obtain ⟨a1, cap1, rfl, _, _, ⟨hlen, _⟩, hc1⟩ := ha
  go_enter Try.func32, Try.ntmps32
  go_wp2_with fail
  go_loopw [5] (fun i wr => ∃ k m : Nat, k ≤ xs.length ∧ i = .int .i64 k ∧ wr = w.drewN m ∧ Hid (n ∉ xs.take k)) (fun i _ => xs.length - (intOf i).toNat)
  case atStart => exact ⟨0, 0, Nat.zero_le _, rfl, rfl, Lib.hid (by simp)⟩
  case round =>
    obtain ⟨k, m, hk, rfl, rfl, ht⟩ := hrel
    by_cases hlt : k < xs.length
    · obtain ⟨b1, off1, rfl, _, hcell1, _⟩ := hc1 k hlt
      have hk4 : (k : Int) < xs.length := by omega
      have hg := Lib.hid (show xs.getD k 0 ∈ xs by simp [hlt])
      have hs := Lib.hid (show xs.take (k+1) = xs.take k ++ [xs.getD k 0] by rw [List.take_succ_eq_append_getElem hlt]; simp [hlt])
      clear hc1
      generalize xs.getD k 0 = x at *
      by_cases hx : x = n
      · have hq : (x == n) = true := by simpa using hx
        have hn := Lib.hid (show decide (n ∈ xs) = true by rw [← hx]; simpa using hg.out)
        replace hx := Lib.hid hx
        go_wp2_with fail
        go_ret
        exact ⟨by rw [hn.out] <;> rfl, qXo⟩
      · have hq : (x == n) = false := by simpa using hx
        have hn := Lib.hid (show n ∉ xs.take (k+1) by rw [hs.out]; simp only [List.mem_append, List.mem_singleton, not_or]; exact ⟨ht.out, fun h => hx h.symm⟩)
        replace hx := Lib.hid hx
        go_wp2_with fail
        go_roundw
        case rel => exact ⟨k+1, _, by omega, by go_num, rfl, hn⟩
        case measure => simp [intOf]; omega
    · obtain rfl : k = xs.length := by omega
      have hn := Lib.hid (show decide (n ∈ xs) = false by have := ht.out; rw [List.take_length] at this; simpa using this)
      go_wp2_with fail
      go_ret
      exact ⟨by rw [hn.out] <;> rfl, qXo⟩

set_option maxHeartbeats 1600000 in
theorem leqView_c (b1 : Int) (u1 v1 u2 v2 : Value) (s1 t1 : List Int) (w : World) (l1 m1 l2 m2 : Nat) (h1 : Ints w l1 u1 s1) (k1 : Ints w m1 v1 t1) (h2 : Ints w l2 u2 s1) (k2 : Ints w m2 v2 t1) :
    Calls Try.prog 21 #[.agg #[.int .i64 b1, u1, v1], .agg #[.int .i64 b1, u2, v2]] w fun e w' => e = .returned (.bool true) ∧ Ext w w' := by
  obtain ⟨a1, cp1, rfl⟩ := h1.form
  obtain ⟨a2, cp2, rfl⟩ := k1.form
  obtain ⟨a3, cp3, rfl⟩ := h2.form
  obtain ⟨a4, cp4, rfl⟩ := k2.form
  go_enter Try.func21, Try.ntmps21
  go_wp2_with fail
  refine (leqInts_c s1 _ _ _ l1 l2 (h1.ext qXt) (h2.ext qXt)).mono ?_
  rintro e w1 ⟨rfl, xw1⟩
  have Lw1 : Ext w w1 := Ext.trans qXt xw1
  have Xw1 : Ext w w1 := Lw1
  have va0 : w1.cell? ⟨w.heap.size, 0, none⟩ = some (.int .i64 b1) := xw1.cell qCl
  have va1 : w1.cell? ⟨w.heap.size, 1, none⟩ = some (.slice a1 s1.length cp1) := xw1.cell qCl
  have va2 : w1.cell? ⟨w.heap.size, 2, none⟩ = some (.slice a2 t1.length cp2) := xw1.cell qCl
  have vb0 : w1.cell? ⟨w.heap.size + 1, 0, none⟩ = some (.int .i64 b1) := xw1.cell qCl
  have vb1 : w1.cell? ⟨w.heap.size + 1, 1, none⟩ = some (.slice a3 s1.length cp3) := xw1.cell qCl
  have vb2 : w1.cell? ⟨w.heap.size + 1, 2, none⟩ = some (.slice a4 t1.length cp4) := xw1.cell qCl
  have z_va : w.heap.size < w1.heap.size := qB va0
  have z_vb : w.heap.size + 1 < w1.heap.size := qB vb0
  have s_w1 : w.heap.size ≤ w1.heap.size := Xw1.size
  clear xw1
  go_wp2_with fail
  refine (leqInts_c t1 _ _ _ m1 m2 (k1.ext (Xw1.trans qXt)) (k2.ext (Xw1.trans qXt))).mono ?_
  rintro e w2 ⟨rfl, xw2⟩
  have Lw2 : Ext w1 w2 := Ext.trans qXt xw2
  have Xw2 : Ext w w2 := Xw1.trans Lw2
  replace va0 := Lw2.cell va0
  replace va1 := Lw2.cell va1
  replace va2 := Lw2.cell va2
  replace vb0 := Lw2.cell vb0
  replace vb1 := Lw2.cell vb1
  replace vb2 := Lw2.cell vb2
  have z_va : w.heap.size < w2.heap.size := qB va0
  have z_vb : w.heap.size + 1 < w2.heap.size := qB vb0
  have s_w2 : w.heap.size ≤ w2.heap.size := Xw2.size
  clear xw2
  go_wp2_with fail
  go_ret
  exact ⟨rfl, Xw2.trans qXt⟩

end Go.Proofs.Ytpgkhjmboiepcaa

/- Walks: helpers of the laws. -/
namespace Go.Proofs.Ytpgkhjmboiepcaa
open Go.RowKit
set_option linter.unusedVariables false
set_option maxRecDepth 100000

set_option maxHeartbeats 1600000 in
theorem lupTo_c (n : Nat) (w : World) (hn : n ≤ 1000) :
    Calls Try.prog 13 #[.int .i64 (n : Int)] w (PInts w (upL n)) := by
  go_enter Try.func13, Try.ntmps13
  go_wp2_with fail
  go_loopw [3, 4] (fun v i wr => ∃ k : Nat, k ≤ n ∧ i = .int .i64 k ∧ OwnI wr w.heap.size v (upL k) ∧ Ext w wr) (fun _ i _ => n - (intOf i).toNat)
  case atStart => exact ⟨0, Nat.zero_le _, rfl, OwnI.lit0 w w.heap.size (Nat.le_refl _), qXo⟩
  case round =>
    obtain ⟨k, hk, rfl, ho, hx⟩ := hrel
    have hz := hx.size
    have hl : (upL k).length = k := by simp [upL]
    by_cases hlt : k < n
    · have hI : (k : Int) < n := by omega
      have hs := Lib.hid (upL_succ k)
      go_wp2_with (at_builtin; refine wpList_app rfl (.tmp 11) (.tmp 13) rfl rfl rfl (ho.ext ((Ext.refl _).alloc _)) (Ints.one _ 0 _ (Nat.zero_le _)) (by simp only [List.length_cons, List.length_nil]; omega) (by simp; omega) ?_)
      intro v' w3 ho3 _ hb3 _
      have hx3 := (hx.alloc (.cells #[.int .i64 (k : Int)] 3)).below hb3 (by omega)
      clear hb3 ho
      replace ho3 := Lib.hid ho3
      go_wp2_with fail
      go_roundw
      case rel => exact ⟨k+1, by omega, by go_num, by rw [hs.out]; exact ho3.out, hx3⟩
      case measure => simp [intOf]; omega
    · obtain rfl : k = n := by omega
      replace ho := Lib.hid ho
      go_wp2_with fail
      go_ret
      exact PInts.mk ho.out (Nat.le_refl _) (by omega) hx


theorem back_take (xs : List Int) (k : Nat) (h : k < xs.length) : (xs.drop k).reverse = (xs.drop (k+1)).reverse ++ [xs.getD k 0] := by
  rw [List.drop_eq_getElem_cons h, List.reverse_cons]; simp [h]
set_option maxHeartbeats 1600000 in
theorem back_c (xs : List Int) (v : Value) (w : World) (lo : Nat) (hv : Ints w lo v xs) :
    Calls Try.prog 12 #[v] w (PInts w xs.reverse) := by
  have hl4 := hv.len
  have hrl : xs.reverse.length = xs.length := by simp
  replace hrl := Lib.hid hrl
  obtain ⟨a1, c1, rfl⟩ := hv.form
  go_enter Try.func12, Try.ntmps12
  go_wp2_with fail
  go_loopw [3, 4] (fun v i wr => ∃ k : Nat, k ≤ xs.length ∧ i = .int .i64 ((k : Int) - 1) ∧ OwnI wr w.heap.size v (xs.drop k).reverse ∧ Ext w wr) (fun _ i _ => (intOf i + 1).toNat)
  case atStart => exact ⟨xs.length, Nat.le_refl _, rfl, by rw [List.drop_length]; exact OwnI.lit0 w w.heap.size (Nat.le_refl _), qXo⟩
  case round =>
    obtain ⟨k, hk, rfl, ho, hx⟩ := hrel
    have hz := hx.size
    have hl := Lib.hid (show (xs.drop k).reverse.length = xs.length - k by simp)
    by_cases hlt : 0 < k
    · obtain ⟨j, rfl⟩ : ∃ j, k = j + 1 := ⟨k - 1, by omega⟩
      have hI : (0 : Int) ≤ ((j + 1 : Nat) : Int) - 1 := by omega
      have hs := Lib.hid (back_take xs j (by omega))
      obtain ⟨b2, off2, rfl, hcell2⟩ := (hv.ext hx).at j (by omega)
      have hj : (((j + 1 : Nat) : Int) - 1) = (j : Int) := by omega
      rw [hj]
      generalize xs.getD j 0 = x at *
      have hI2 : (j : Int) < xs.length := by omega
      clear hI hj
      go_wp2_with (at_builtin; refine wpList_app rfl (.tmp 13) (.tmp 18) rfl rfl rfl (ho.ext ((Ext.refl _).alloc _)) (Ints.one _ 0 _ (Nat.zero_le _)) (by have := hl.out; simp only [List.length_cons, List.length_nil]; omega) (by simp; omega) ?_)
      intro v' w3 ho3 _ hb3 _
      have hx3 := (hx.alloc (.cells #[.int .i64 x] 3)).below hb3 (by omega)
      clear hb3 ho hcell2
      replace ho3 := Lib.hid ho3
      go_wp2_with fail
      go_roundw
      case rel => exact ⟨j, by omega, rfl, by rw [hs.out]; exact ho3.out, hx3⟩
      case measure => simp [intOf]
    · obtain rfl : k = 0 := by omega
      replace ho := Lib.hid ho
      go_wp2_with fail
      go_ret
      exact PInts.mk (by have := ho.out; rw [List.drop_zero] at this; exact this) (Nat.le_refl _) (by rw [hrl.out]; omega) hx

/-- the sum of numbers -/
def sumL (xs : List Int) : Int := xs.foldl (· + ·) 0
theorem sumL_take (xs : List Int) (k : Nat) (h : k < xs.length) : sumL (xs.take (k+1)) = sumL (xs.take k) + xs.getD k 0 := by
  unfold sumL; rw [List.take_succ_eq_append_getElem h, List.foldl_append]; simp [h]
theorem sumL_bd (xs : List Int) (h : ∀ x ∈ xs, -1000000 ≤ x ∧ x ≤ 1000000) : -(1000000 * (xs.length : Int)) ≤ sumL xs ∧ sumL xs ≤ 1000000 * (xs.length : Int) := by
  have key : ∀ (ys : List Int) (a : Int), (∀ x ∈ ys, -1000000 ≤ x ∧ x ≤ 1000000) → a - 1000000 * (ys.length : Int) ≤ ys.foldl (· + ·) a ∧ ys.foldl (· + ·) a ≤ a + 1000000 * (ys.length : Int) := by
    intro ys
    induction ys with
    | nil => intro a _; simp
    | cons y r ih =>
      intro a hy
      have h1 := hy y (by simp)
      have h2 := ih (a + y) (fun x hx => hy x (by simp [hx]))
      simp only [List.foldl_cons, List.length_cons]
      omega
  have := key xs 0 h
  unfold sumL; omega
theorem leqInts_e (xs ys : List Int) (a b : Value) (w : World) (la lb : Nat) (ha : Ints w la a xs) (hb : Ints w lb b ys) (he : xs = ys) :
    Calls Try.prog 15 #[a, b] w fun e w' => e = .returned (.bool true) ∧ Ext w w' := by
  subst he; exact leqInts_c xs a b w la lb ha hb
theorem leqView_e (b1 b2 : Int) (u1 v1 u2 v2 : Value) (s1 t1 s2 t2 : List Int) (w : World) (l1 m1 l2 m2 : Nat) (h1 : Ints w l1 u1 s1) (k1 : Ints w m1 v1 t1) (h2 : Ints w l2 u2 s2) (k2 : Ints w m2 v2 t2) (he : b1 = b2 ∧ s1 = s2 ∧ t1 = t2) :
    Calls Try.prog 21 #[.agg #[.int .i64 b1, u1, v1], .agg #[.int .i64 b2, u2, v2]] w fun e w' => e = .returned (.bool true) ∧ Ext w w' := by
  obtain ⟨rfl, rfl, rfl⟩ := he; exact leqView_c b1 u1 v1 u2 v2 s1 t1 w l1 m1 l2 m2 h1 k1 h2 k2

end Go.Proofs.Ytpgkhjmboiepcaa

/- Walks: LoadView of the program and of the reference. -/
namespace Go.Proofs.Ytpgkhjmboiepcaa
open Go.RowKit
set_option linter.unusedVariables false
set_option maxRecDepth 100000


def loadA (mem : List Int) (b : Int) (s t : List Int) : List Int := if holdB mem b s t then loadL mem b s t else []
theorem PInts.no {w w' : World} (h : Ext w w') : PInts w [] (.returned (.slice none 0 0)) w' :=
  ⟨_, rfl, Ints.nil _ _ _ _ (by simp) (fun _ => rfl), .inl ⟨rfl, none, 0, rfl, by simp, fun _ => rfl⟩, h⟩

set_option maxHeartbeats 1600000 in
theorem implLoadView_c (mem : List Int) (a0 : Value) (b1 : Int) (u1 v1 : Value) (s1 t1 : List Int) (w : World) (l0 l1 m1 : Nat) (h0 : Ints w l0 a0 mem) (h1 : Ints w l1 u1 s1) (k1 : Ints w m1 v1 t1) :
    Calls Try.prog 16 #[a0, .agg #[.int .i64 b1, u1, v1]] w (PInts w (loadA mem b1 s1 t1)) := by
  obtain ⟨p0, c0, rfl⟩ := h0.form
  obtain ⟨p1, c1, rfl⟩ := h1.form
  obtain ⟨p2, c2, rfl⟩ := k1.form
  go_enter Try.func16, Try.ntmps16
  go_wp2_with fail
  refine (canHold_c mem (.slice p0 mem.length c0) b1 (.slice p1 s1.length c1) (.slice p2 t1.length c2) s1 t1 _ _ _ _ (h0.ext qXt) (h1.ext qXt) (k1.ext qXt)).mono ?_
  rintro e w1 ⟨rfl, xw1⟩
  have Lw1 : Ext w w1 := Ext.trans qXt xw1
  have Xw1 : Ext w w1 := Lw1
  have b10 : w1.cell? ⟨w.heap.size, 0, none⟩ = some (.int .i64 b1) := xw1.cell qCl
  have b11 : w1.cell? ⟨w.heap.size, 1, none⟩ = some (.slice p1 s1.length c1) := xw1.cell qCl
  have b12 : w1.cell? ⟨w.heap.size, 2, none⟩ = some (.slice p2 t1.length c2) := xw1.cell qCl
  have z_b1 : w.heap.size < w1.heap.size := qB b10
  have s_w1 : w.heap.size ≤ w1.heap.size := Xw1.size
  clear xw1
  cases hB2 : holdB mem b1 s1 t1
  · replace hB2 := Lib.hid hB2
    go_wp2_with fail
    go_ret
    rw [show loadA mem b1 s1 t1 = [] by unfold loadA; rw [hB2.out]; rfl]
    exact PInts.no (Xw1.trans qXt)
  · replace hB2 := Lib.hid hB2
    go_wp2_with fail
    refine (loadView_c mem (.slice p0 mem.length c0) b1 (.slice p1 s1.length c1) (.slice p2 t1.length c2) s1 t1 _ _ _ _ (h0.ext (Xw1.trans qXt)) (h1.ext (Xw1.trans qXt)) (k1.ext (Xw1.trans qXt)) hB2.out).mono ?_
    rintro e w2 ⟨fv3, rfl, i4, i4z, xw2⟩
    have Lw2 : Ext w1 w2 := Ext.trans qXt xw2
    have Xw2 : Ext w w2 := Xw1.trans Lw2
    replace b10 := Lw2.cell b10
    replace b11 := Lw2.cell b11
    replace b12 := Lw2.cell b12
    have z_b1 : w.heap.size < w2.heap.size := qB b10
    have s_w2 : w.heap.size ≤ w2.heap.size := Xw2.size
    clear xw2
    obtain ⟨afv3, cfv3, rfl⟩ := i4.form
    go_wp2_with fail
    go_ret
    rw [show loadA mem b1 s1 t1 = loadL mem b1 s1 t1 by unfold loadA; rw [hB2.out]; rfl]
    exact ⟨_, rfl, i4.lower (by omega), i4z.lower (by omega), Xw2⟩

end Go.Proofs.Ytpgkhjmboiepcaa

/- Plain laws on memories: what is stored last stays, what is added, sums. -/
namespace Go.Proofs.Ytpgkhjmboiepcaa
open Go.RowKit
set_option linter.unusedVariables false
set_option maxRecDepth 100000

theorem getD_set (m : List Int) (a : Nat) (x : Int) (b : Nat) : (m.set a x).getD b 0 = if a = b ∧ b < m.length then x else m.getD b 0 := by
  simp only [List.getD_eq_getElem?_getD, List.getElem?_set]
  by_cases h : a = b
  · subst h
    by_cases h2 : a < m.length
    · rw [if_pos rfl, if_pos h2, if_pos ⟨rfl, h2⟩]; rfl
    · rw [if_pos rfl, if_neg h2, if_neg (fun h => h2 h.2), List.getElem?_eq_none (by omega)]
  · rw [if_neg h, if_neg (fun h' => h h'.1)]

/-- the last value of a cell stays -/
theorem put_last (mem ix vs : List Int) (hix : ∀ x ∈ ix, 0 ≤ x ∧ x < mem.length) (i : Nat) (hi : i < ix.length) (hno : (ix.drop (i+1)).contains (ix.getD i 0) = false) :
    (putL mem ix vs).getD (ix.getD i 0).toNat 0 = vs.getD i 0 := by
  have key : ∀ k, i < k → k ≤ ix.length → (putUp mem ix vs k).getD (ix.getD i 0).toNat 0 = vs.getD i 0 := by
    intro k
    induction k with
    | zero => intro h; omega
    | succ k ih =>
      intro h1 h2
      rw [putUp_succ, getD_set, putUp_len]
      have hxi := hix (ix.getD i 0) (by have : ix.getD i 0 = ix[i] := by simp [hi]
                                        rw [this]; exact List.getElem_mem hi)
      by_cases hk : k = i
      · subst hk; rw [if_pos ⟨rfl, by omega⟩]
      · have hxk := hix (ix.getD k 0) (by have : ix.getD k 0 = ix[k] := by simp [show k < ix.length by omega]
                                          rw [this]; exact List.getElem_mem _)
        rw [if_neg, ih (by omega) (by omega)]
        rintro ⟨h3, _⟩
        have h4 : ix.getD k 0 = ix.getD i 0 := by omega
        have : (ix.drop (i+1)).contains (ix.getD i 0) = true := by
          rw [List.contains_iff_mem, ← h4, List.mem_iff_getElem]
          exact ⟨k - (i+1), by simp; omega, by simp [show i + 1 + (k - (i + 1)) = k by omega, show k < ix.length by omega]⟩
        rw [this] at hno; cases hno
  exact key ix.length hi (Nat.le_refl _)

/-- additions one by one -/
def addUp (mem ix vs : List Int) (k : Nat) : List Int := (List.range k).foldl (fun m i => m.set (ix.getD i 0).toNat ((m.getD (ix.getD i 0).toNat 0 + vs.getD i 0) % 256)) mem
theorem addUp_succ (mem ix vs : List Int) (k : Nat) : addUp mem ix vs (k+1) = (addUp mem ix vs k).set (ix.getD k 0).toNat (((addUp mem ix vs k).getD (ix.getD k 0).toNat 0 + vs.getD k 0) % 256) := by
  unfold addUp; rw [List.range_succ, List.foldl_append]; rfl
theorem addUp_len (mem ix vs : List Int) (k : Nat) : (addUp mem ix vs k).length = mem.length := by
  induction k with
  | zero => rfl
  | succ k ih => rw [addUp_succ, List.length_set, ih]
def addL (mem ix vs : List Int) : List Int := addUp mem ix vs ix.length
/-- what is added to a cell by the first k -/
def sumAt (ix vs : List Int) (x : Int) : Nat → Int
  | 0 => 0
  | k+1 => sumAt ix vs x k + if ix.getD k 0 = x then vs.getD k 0 else 0
theorem addUp_get (mem ix vs : List Int) (hm : ∀ y ∈ mem, 0 ≤ y ∧ y ≤ 255) (hix : ∀ x ∈ ix, 0 ≤ x ∧ x < mem.length) (x : Nat) (hx : x < mem.length) : ∀ k, k ≤ ix.length → (addUp mem ix vs k).getD x 0 = (mem.getD x 0 + sumAt ix vs x k) % 256 := by
  intro k
  induction k with
  | zero =>
    intro _
    have := hm (mem.getD x 0) (by have : mem.getD x 0 = mem[x] := by simp [hx]
                                  rw [this]; exact List.getElem_mem hx)
    simp only [sumAt, Int.add_zero]
    rw [Int.emod_eq_of_lt (by omega) (by omega)]; rfl
  | succ k ih =>
    intro hk
    have h := ih (by omega)
    have hxk := hix (ix.getD k 0) (by have : ix.getD k 0 = ix[k] := by simp [show k < ix.length by omega]
                                      rw [this]; exact List.getElem_mem _)
    rw [addUp_succ, getD_set, addUp_len, sumAt]
    by_cases he : ix.getD k 0 = (x : Int)
    · rw [if_pos ⟨by omega, hx⟩, if_pos he, he, Int.toNat_natCast, h]
      rw [← Int.add_assoc]
      exact Int.emod_add_emod _ _ _
    · rw [if_neg (fun h' => he (by omega)), if_neg he, Int.add_zero, h]

theorem takL_sum_perm {mem a b : List Int} (h : a.Perm b) : (takL mem a).sum = (takL mem b).sum := perm_sum (h.map _)

end Go.Proofs.Ytpgkhjmboiepcaa

/- Walks: indices, ranks, rows, sums. -/
namespace Go.Proofs.Ytpgkhjmboiepcaa
open Go.RowKit
set_option linter.unusedVariables false
set_option maxRecDepth 100000


theorem vw {b : Int} {s t : List Int} (h : viewB b s t = true) : s.length ≤ t.length ∧ (0 < countL s → ∀ e ∈ s, 1 ≤ e) ∧ countL s ≤ 1000000 ∧ Small s := by
  obtain ⟨h1, h2, h3, h4, h5⟩ := viewB_in h
  have h6 := shapeB_in h1
  exact ⟨by omega, h6.2.2.2.2, by omega, Small.of h1⟩
theorem sh {s : List Int} (h : shapeB s = true) : Small s ∧ (0 < countL s → ∀ e ∈ s, 1 ≤ e) ∧ countL s ≤ 1000000 := by
  have h6 := shapeB_in h
  exact ⟨Small.of h, h6.2.2.2.2, by omega⟩
/-- the first k numbers are within the extents -/
def OkTo (s r : List Int) (k : Nat) : Prop := ∀ j, j < k → 0 ≤ r.getD j 0 ∧ r.getD j 0 < s.getD j 0
theorem OkTo.zero (s r : List Int) : OkTo s r 0 := fun j h => absurd h (by omega)
theorem OkTo.succ {s r : List Int} {k : Nat} (h : OkTo s r k) {x e : Int} (hx : r.getD k 0 = x) (he : s.getD k 0 = e) (h1 : 0 ≤ x) (h2 : x < e) : OkTo s r (k+1) := fun j hj => by
  by_cases hjk : j = k
  · subst hjk; rw [hx, he]; exact ⟨h1, h2⟩
  · exact h j (by omega)
theorem ixOf_ok : ∀ (s r : List Int), r.length = s.length → (IxOf s r ↔ OkTo s r r.length)
  | [], [], _ => ⟨fun _ => OkTo.zero _ _, fun _ => trivial⟩
  | [], x :: r, h => by simp at h
  | e :: s, [], h => by simp at h
  | e :: s, x :: r, h => by
    have ih := ixOf_ok s r (by simpa using h)
    constructor
    · rintro ⟨h1, h2⟩ j hj
      cases j with
      | zero => simpa using h1
      | succ j => have := (ih.1 h2) j (by simpa using hj); simpa using this
    · intro hk
      refine ⟨by simpa using hk 0 (by simp), ih.2 fun j hj => by have := hk (j+1) (by simpa using hj); simpa using this⟩
theorem ixB_ok {s r : List Int} (hl : r.length = s.length) (h : OkTo s r r.length) : ixB s r = true := (ixB_iff s r).2 ((ixOf_ok s r hl).2 h)
theorem ixB_no {s r : List Int} {k : Nat} (hk : k < r.length) {x e : Int} (hx : r.getD k 0 = x) (he : s.getD k 0 = e) (h : x < 0 ∨ e ≤ x) : ixB s r = false := by
  cases hb : ixB s r with
  | false => rfl
  | true =>
    have h1 := (ixB_iff s r).1 hb
    have h2 := (ixOf_ok s r h1.len).1 h1 k hk
    rw [hx, he] at h2; omega
theorem ixB_len {s r : List Int} (h : r.length ≠ s.length) : ixB s r = false := by unfold ixB; simp [h]

set_option maxHeartbeats 1600000 in
theorem isIndex_c (s r : List Int) (v1 v2 : Value) (w : World) (l1 l2 : Nat) (h1 : Ints w l1 v1 s) (h2 : Ints w l2 v2 r) :
    Calls Try.prog 91 #[v1, v2] w (fun e w' => e = .returned (.bool (ixB s r)) ∧ w = w') := by
  have n1 := h1.len
  have n2 := h2.len
  obtain ⟨p1, c1, rfl⟩ := h1.form
  obtain ⟨p2, c2, rfl⟩ := h2.form
  go_enter Try.func91, Try.ntmps91
  by_cases hc1 : (r.length : Int) = (s.length : Int)
  · have hc1e : ((r.length : Int) == (s.length : Int)) = true := by simpa using hc1
    have hc1n : ((r.length : Int) != (s.length : Int)) = false := by simpa using hc1
    replace hc1 := Lib.hid hc1
    go_wp2_with fail
    go_loop [14] (fun i => ∃ (k : Nat), k ≤ r.length ∧ i = .int .i64 k ∧ Hid (OkTo s r k)) (fun i => r.length - (intOf i).toNat)
    case atStart => exact ⟨0, Nat.zero_le _, rfl, Lib.hid (OkTo.zero _ _)⟩
    case round =>
      obtain ⟨k, hk, rfl, hok⟩ := hrel
      by_cases hlt : k < r.length
      · have hkI : (k : Int) < r.length := by omega
        have hks : k < s.length := by have := hc1.out; omega
        obtain ⟨bl2, ol3, rfl, e40⟩ := h2.at k (by omega)
        obtain ⟨v5, hv5⟩ : ∃ v, r.getD k 0 = v := ⟨_, rfl⟩
        rw [hv5] at e40
        replace hv5 := Lib.hid hv5
        have y_e4 : bl2 < w.heap.size := qB e40
        have z_e4 := y_e4
        by_cases hc6 : (v5 : Int) < (0 : Int)
        · go_wp2_with fail
          go_ret
          exact ⟨by rw [show ixB s r = false from ixB_no (by omega) hv5.out rfl (by omega)] <;> rfl, rfl⟩
        · obtain ⟨bl7, ol8, rfl, e90⟩ := h1.at k (by omega)
          obtain ⟨v10, hv10⟩ : ∃ v, s.getD k 0 = v := ⟨_, rfl⟩
          rw [hv10] at e90
          replace hv10 := Lib.hid hv10
          have y_e9 : bl7 < w.heap.size := qB e90
          have z_e9 := y_e9
          by_cases hc11 : (v10 : Int) ≤ (v5 : Int)
          · go_wp2_with fail
            go_ret
            exact ⟨by rw [show ixB s r = false from ixB_no (by omega) hv5.out hv10.out (by omega)] <;> rfl, rfl⟩
          · go_wp2_with fail
            go_round
            case rel => exact ⟨k + 1, by omega, by go_num, Lib.hid (hok.out.succ hv5.out hv10.out (by omega) (by omega))⟩
            case measure => simp [intOf]; omega
      · have hkI : ¬ (k : Int) < r.length := by omega
        go_wp2_with fail
        go_ret
        exact ⟨by rw [show ixB s r = true from ixB_ok (by have := hc1.out; omega) (by have := hok.out; rwa [show k = r.length by omega] at this)] <;> rfl, rfl⟩
  · have hc1e : ((r.length : Int) == (s.length : Int)) = false := by simpa using hc1
    have hc1n : ((r.length : Int) != (s.length : Int)) = true := by simpa using hc1
    replace hc1 := Lib.hid hc1
    go_wp2_with fail
    go_ret
    exact ⟨by rw [show ixB s r = false from ixB_len (by have := hc1.out; omega)] <;> rfl, rfl⟩

end Go.Proofs.Ytpgkhjmboiepcaa

/- Walks: ranks, indices, rows, sums. -/
namespace Go.Proofs.Ytpgkhjmboiepcaa
open Go.RowKit
set_option linter.unusedVariables false
set_option maxRecDepth 100000


def rankA (s r : List Int) : Int := if shapeB s && ixB s r then rankC s r else -1
def idxA (s : List Int) (k : Int) : List Int := if shapeB s && (decide (0 ≤ k) && decide (k < countL s)) then (unrL s k).1 else []
def okA (b : Int) (s t r : List Int) : Bool := viewB b s t && ixB s r
def atA (b : Int) (s t r : List Int) : Int := if okA b s t r then dotL b r t else 0
def rowB (b : Int) (s t : List Int) : Bool := viewB b s t && sameB (offsL b s t) (offsL b s (rowS s))
def sumA (mem : List Int) (b : Int) (s t : List Int) : Int := if holdB mem b s t then sumL (loadL mem b s t) else -1
theorem ix_len {s r : List Int} (h : ixB s r = true) : r.length = s.length := ((ixB_iff s r).1 h).len
theorem loadL_bd {mem : List Int} {b : Int} {s t : List Int} (h : holdB mem b s t = true) : ∀ x ∈ loadL mem b s t, 0 ≤ x ∧ x ≤ 255 := by
  intro x hx
  obtain ⟨h1, h2, h3⟩ := hold_in h
  unfold loadL takL at hx
  obtain ⟨i, hi, rfl⟩ := List.mem_map.1 hx
  obtain ⟨g1, g2⟩ := h3 i hi
  have hm : mem.getD i.toNat 0 ∈ mem := getD_mem (by omega)
  unfold memB at h1
  simp only [Bool.and_eq_true, List.all_eq_true, decide_eq_true_eq, inB] at h1
  exact h1.2 _ hm
theorem loadL_len {mem : List Int} {b : Int} {s t : List Int} (h : holdB mem b s t = true) : (loadL mem b s t).length ≤ 60 := by
  unfold loadL; rw [takL_len, offs_count]
  have h1 := (viewB_in (hold_in h).2.1).1
  have := shapeB_in h1
  omega

set_option maxHeartbeats 1600000 in
theorem implRankOf_c (s r : List Int) (v1 v2 : Value) (w : World) (l1 l2 : Nat) (h1 : Ints w l1 v1 s) (h2 : Ints w l2 v2 r) :
    Calls Try.prog 49 #[v1, v2] w (fun e w' => e = .returned (.int .i64 (rankA s r)) ∧ w = w') := by
  have n1 := h1.len
  have n2 := h2.len
  obtain ⟨p0, c0, rfl⟩ := h1.form
  obtain ⟨p1, c1, rfl⟩ := h2.form
  go_enter Try.func49, Try.ntmps49
  go_wp2_with fail
  refine (isShape_c s (.slice p0 s.length c0) _ _ (h1.ext qXt)).mono ?_
  rintro e w' ⟨rfl, rfl⟩
  cases hB1 : shapeB s
  · replace hB1 := Lib.hid hB1
    go_wp2_with fail
    go_ret
    exact ⟨by rw [show rankA s r = -1 by unfold rankA; rw [hB1.out]; rfl] <;> rfl, rfl⟩
  · replace hB1 := Lib.hid hB1
    go_wp2_with fail
    refine (isIndex_c s r (.slice p0 s.length c0) (.slice p1 r.length c1) _ _ _ (h1.ext qXt) (h2.ext qXt)).mono ?_
    rintro e w' ⟨rfl, rfl⟩
    cases hB2 : ixB s r
    · replace hB2 := Lib.hid hB2
      go_wp2_with fail
      go_ret
      exact ⟨by rw [show rankA s r = -1 by unfold rankA; rw [hB1.out, hB2.out]; rfl] <;> rfl, rfl⟩
    · replace hB2 := Lib.hid hB2
      go_wp2_with fail
      go_loop [5, 19] (fun n i => ∃ (k : Nat), k ≤ r.length ∧ i = .int .i64 k ∧ n = .int .i64 (rankL (s.take k) r)) (fun _ i => r.length - (intOf i).toNat)
      case atStart => exact ⟨0, Nat.zero_le _, rfl, rfl⟩
      case round =>
        obtain ⟨k, hk, rfl, rfl⟩ := hrel
        by_cases hlt : k < r.length
        · have hkI : (k : Int) < r.length := by omega
          have hks : k < s.length := by have := ix_len hB2.out; omega
          have hs := rankL_take s r k hks hlt
          obtain ⟨bl3, ol4, rfl, e50⟩ := h2.at k (by omega)
          obtain ⟨v6, hv6⟩ : ∃ v, r.getD k 0 = v := ⟨_, rfl⟩
          rw [hv6] at e50
          replace hv6 := Lib.hid hv6
          have y_e5 : bl3 < w.heap.size := qB e50
          have z_e5 := y_e5
          rw [hv6.out] at hs
          obtain ⟨bl7, ol8, rfl, e90⟩ := h1.at k (by omega)
          obtain ⟨v10, hv10⟩ : ∃ v, s.getD k 0 = v := ⟨_, rfl⟩
          rw [hv10] at e90
          replace hv10 := Lib.hid hv10
          have y_e9 : bl7 < w.heap.size := qB e90
          have z_e9 := y_e9
          rw [hv10.out] at hs
          replace hs := Lib.hid hs
          go_wp2_with fail
          go_round
          case rel => exact ⟨k + 1, by omega, by go_num, by rw [hs.out]⟩
          case measure => simp [intOf]; omega
        · have hkI : ¬ (k : Int) < r.length := by omega
          go_wp2_with fail
          go_ret
          exact ⟨by rw [show rankA s r = rankL (s.take k) r by (unfold rankA; rw [hB1.out, hB2.out, List.take_of_length_le (by have := ix_len hB2.out; omega)]; exact (rankL_eq (ix_len hB2.out).symm (Small.of hB1.out) (ixB_small hB2.out (Small.of hB1.out))).symm)] <;> rfl, rfl⟩

end Go.Proofs.Ytpgkhjmboiepcaa

/- Walks: slices.Insert of one number into a row of one's own. -/
namespace Go.Proofs.Ytpgkhjmboiepcaa
open Go.RowKit
set_option linter.unusedVariables false
set_option maxRecDepth 100000

theorem insL_len (xs : List Int) (i : Nat) (x : Int) (h : i ≤ xs.length) : (insL xs i x).length = xs.length + 1 := by unfold insL; simp; omega
theorem insL_get (xs : List Int) (i : Nat) (x : Int) (h : i ≤ xs.length) (j : Nat) (hj : j < xs.length + 1) : (insL xs i x).getD j 0 = if j < i then xs.getD j 0 else if j = i then x else xs.getD (j - 1) 0 := by
  unfold insL
  have h1 : (xs.take i).length = i := by simp; omega
  by_cases h2 : j < i
  · rw [if_pos h2, List.getD_eq_getElem?_getD, List.getElem?_append_left (by simp; omega), List.getElem?_append_left (by omega), List.getElem?_take, if_pos h2, ← List.getD_eq_getElem?_getD]
  · rw [if_neg h2]
    by_cases h3 : j = i
    · subst h3
      rw [if_pos rfl, List.getD_eq_getElem?_getD, List.getElem?_append_left (by simp; omega), List.getElem?_append_right (by omega), h1]; simp
    · rw [if_neg h3, List.getD_eq_getElem?_getD, List.getElem?_append_right (by simp; omega), List.getElem?_drop, List.length_append, h1, List.length_singleton, List.getD_eq_getElem?_getD]
      congr 2; omega
theorem ints_of_cells {w : World} {B g n c : Nat} {xs : List Int} (hB : B ≤ g) (hn : n = xs.length) (hc : n ≤ c) (hm : c ≤ maxLen) (hl : n ≤ 4194304) (h : ∀ j, j < n → w.cell? ⟨g, j, none⟩ = some (.int .i64 (xs.getD j 0)) ∧ w.frozen? ⟨g, j, none⟩ = false) : Ints w B (.slice (some ⟨g, 0, none⟩) n c) xs := by
  subst hn
  exact ⟨some ⟨g, 0, none⟩, c, rfl, hc, hm, ⟨hl, fun h => by cases h⟩, fun i hi => ⟨g, 0, rfl, hB, by rw [Nat.zero_add]; exact (h i hi).1, by rw [Nat.zero_add]; exact (h i hi).2⟩⟩
end Go.Proofs.Ytpgkhjmboiepcaa

/- Plain laws: valid tensors, the extents of labels. No condition. -/
namespace Go.Proofs.Ytpgkhjmboiepcaa
open Go.RowKit
set_option linter.unusedVariables false
set_option maxRecDepth 100000

/-- is a tensor valid? -/
def tenB (s t : List Int) : Bool := (shapeB s && decide ((t.length : Int) = countL s)) && t.all (inB (-1000000) 1000000)
theorem tenB_in {s t : List Int} (h : tenB s t = true) : shapeB s = true ∧ (t.length : Int) = countL s ∧ t.all (inB (-1000000) 1000000) = true := by
  unfold tenB at h; simp only [Bool.and_eq_true, decide_eq_true_eq] at h; exact ⟨h.1.1, h.1.2, h.2⟩
/-- are the first k tensors valid? -/
def tnB (ts : List Ten) (k : Nat) : Bool := (List.range k).all fun i => tenB (tenAt ts i).s (tenAt ts i).t
theorem tnB_succ (ts : List Ten) (k : Nat) : tnB ts (k+1) = (tnB ts k && tenB (tenAt ts k).s (tenAt ts k).t) := by unfold tnB; rw [List.range_succ, List.all_append]; simp
theorem tnB_no {ts : List Ten} {k n : Nat} (h : k < n) (hk : tenB (tenAt ts k).s (tenAt ts k).t = false) : tnB ts n = false := by
  unfold tnB
  rw [Bool.eq_false_iff]
  intro h2
  rw [List.all_eq_true] at h2
  have := h2 k (List.mem_range.2 h)
  rw [hk] at this; cases this
theorem tnB_at {ts : List Ten} {n : Nat} (h : tnB ts n = true) (k : Nat) (hk : k < n) : tenB (tenAt ts k).s (tenAt ts k).t = true := by
  unfold tnB at h
  rw [List.all_eq_true] at h
  exact h k (List.mem_range.2 hk)
/-- as many labels as tensors, one to three valid ones -/
def tensB (ts : List Ten) (ls : List Lst) : Bool := tnB ts ts.length && (inB 1 3 (ts.length : Int) && decide ((ls.length : Int) = (ts.length : Int)))
abbrev labB (l : List Int) : Bool := l.all (inB 0 4)
/-- the extents behind the first d labels of a tensor; none where two extents of a label differ -/
def extIn (e : List Int) (s l : List Int) : Nat → Option (List Int)
  | 0 => some e
  | d+1 => (extIn e s l d).bind fun x => if 0 ≤ x.getD (l.getD d 0).toNat 0 ∧ x.getD (l.getD d 0).toNat 0 ≠ s.getD d 0 then none else some (x.set (l.getD d 0).toNat (s.getD d 0))
theorem extIn_none {e s l : List Int} {d n : Nat} (h : d ≤ n) (hd : extIn e s l d = none) : extIn e s l n = none := by
  induction n with
  | zero => obtain rfl : d = 0 := by omega
            exact hd
  | succ n ih =>
    rcases Nat.lt_or_ge d (n+1) with h1 | h1
    · unfold extIn; rw [ih (by omega)]; rfl
    · obtain rfl : d = n + 1 := by omega
      exact hd
theorem extIn_some {e s l x : List Int} {d : Nat} (h : extIn e s l d = some x) (hn : ¬ (0 ≤ x.getD (l.getD d 0).toNat 0 ∧ x.getD (l.getD d 0).toNat 0 ≠ s.getD d 0)) : extIn e s l (d+1) = some (x.set (l.getD d 0).toNat (s.getD d 0)) := by
  unfold extIn; rw [h]; simp only [Option.bind_some]; rw [if_neg hn]
theorem extIn_bad {e s l x : List Int} {d n : Nat} (hd : d < n) (h : extIn e s l d = some x) (hn : 0 ≤ x.getD (l.getD d 0).toNat 0 ∧ x.getD (l.getD d 0).toNat 0 ≠ s.getD d 0) : extIn e s l n = none := by
  refine extIn_none (d := d + 1) hd ?_
  unfold extIn; rw [h]; simp only [Option.bind_some]; rw [if_pos hn]
theorem extIn_len {e s l x : List Int} {d : Nat} (h : extIn e s l d = some x) : x.length = e.length := by
  induction d generalizing x with
  | zero => unfold extIn at h; cases h; rfl
  | succ d ih =>
    unfold extIn at h
    cases hp : extIn e s l d with
    | none => rw [hp] at h; cases h
    | some y =>
      rw [hp] at h
      simp only [Option.bind_some] at h
      split at h
      · cases h
      · cases h; rw [List.length_set]; exact ih hp
/-- do the labels of a tensor go with its dimensions? -/
def rowOk (s l : List Int) : Bool := decide ((l.length : Int) = (s.length : Int)) && labB l
/-- the extents behind the first k tensors -/
def extT (ts : List Ten) (ls : List Lst) : Nat → Option (List Int)
  | 0 => some (List.replicate 5 (-1))
  | k+1 => (extT ts ls k).bind fun e => if rowOk (tenAt ts k).s (lstAt ls k).s then extIn e (tenAt ts k).s (lstAt ls k).s (lstAt ls k).s.length else none
theorem extT_none {ts : List Ten} {ls : List Lst} {k n : Nat} (h : k ≤ n) (hk : extT ts ls k = none) : extT ts ls n = none := by
  induction n with
  | zero => obtain rfl : k = 0 := by omega
            exact hk
  | succ n ih =>
    rcases Nat.lt_or_ge k (n+1) with h1 | h1
    · unfold extT; rw [ih (by omega)]; rfl
    · obtain rfl : k = n + 1 := by omega
      exact hk
theorem extT_some {ts : List Ten} {ls : List Lst} {k : Nat} {e x : List Int} (h : extT ts ls k = some e) (hr : rowOk (tenAt ts k).s (lstAt ls k).s = true) (hx : extIn e (tenAt ts k).s (lstAt ls k).s (lstAt ls k).s.length = some x) : extT ts ls (k+1) = some x := by
  unfold extT; rw [h]; simp only [Option.bind_some]; rw [if_pos hr, hx]
theorem extT_row {ts : List Ten} {ls : List Lst} {k n : Nat} (hk : k < n) (hr : rowOk (tenAt ts k).s (lstAt ls k).s = false) : extT ts ls n = none := by
  refine extT_none (k := k + 1) hk ?_
  unfold extT; cases extT ts ls k with
  | none => rfl
  | some e => simp only [Option.bind_some]; rw [if_neg (by rw [hr]; simp)]
theorem extT_bad {ts : List Ten} {ls : List Lst} {k n : Nat} {e : List Int} (hk : k < n) (h : extT ts ls k = some e) (hx : extIn e (tenAt ts k).s (lstAt ls k).s (lstAt ls k).s.length = none) : extT ts ls n = none := by
  refine extT_none (k := k + 1) hk ?_
  unfold extT; rw [h]; simp only [Option.bind_some]; split <;> first | exact hx | rfl
theorem extT_len {ts : List Ten} {ls : List Lst} {k : Nat} {x : List Int} (h : extT ts ls k = some x) : x.length = 5 := by
  induction k generalizing x with
  | zero => unfold extT at h; cases h; simp
  | succ k ih =>
    unfold extT at h
    cases hp : extT ts ls k with
    | none => rw [hp] at h; cases h
    | some y =>
      rw [hp] at h
      simp only [Option.bind_some] at h
      split at h
      · rw [extIn_len h]; exact ih hp
      · cases h
/-- ExtentsOf -/
def extA (ts : List Ten) (ls : List Lst) : Option (List Int) := if tensB ts ls then extT ts ls ts.length else none
/-- a row that is filled with -1 -/
def negL (k : Nat) : List Int := List.replicate k (-1) ++ List.replicate (5 - k) 0
theorem negL_len {k : Nat} (h : k ≤ 5) : (negL k).length = 5 := by unfold negL; simp; omega
theorem negL_set {k : Nat} (h : k < 5) : (negL k).set k (-1) = negL (k+1) := by
  match k, h with
  | 0, _ => rfl
  | 1, _ => rfl
  | 2, _ => rfl
  | 3, _ => rfl
  | 4, _ => rfl
theorem negS (k : Nat) : List.replicate (k+1) (-1 : Int) = List.replicate k (-1) ++ [-1] := by rw [List.replicate_succ']
theorem lab_at {l : List Int} {d : Nat} {v : Int} (h : labB l = true) (hd : d < l.length) (hv : l.getD d 0 = v) : ∃ q : Nat, q ≤ 4 ∧ v = (q : Int) := by
  unfold labB at h
  rw [List.all_eq_true] at h
  have := h (l.getD d 0) (getD_mem hd)
  rw [hv] at this
  unfold inB at this
  simp at this
  exact ⟨v.toNat, by omega, by omega⟩
theorem ext_go {e s l x : List Int} {d q : Nat} {v1 v2 : Int} (h : extIn e s l d = some x) (hq : l.getD d 0 = (q : Int)) (h1 : x.getD q 0 = v1) (h2 : s.getD d 0 = v2) (hn : ¬ (0 ≤ v1 ∧ ¬ v1 = v2)) : extIn e s l (d+1) = some (x.set q v2) := by
  have e1 : (l.getD d 0).toNat = q := by rw [hq]; omega
  have := extIn_some h (by rw [e1, h1, h2]; exact hn)
  rwa [e1, h2] at this
theorem ext_stop {e s l x : List Int} {d q : Nat} {v1 v2 : Int} (hd : d < l.length) (h : extIn e s l d = some x) (hq : l.getD d 0 = (q : Int)) (h1 : x.getD q 0 = v1) (h2 : s.getD d 0 = v2) (hn : 0 ≤ v1 ∧ ¬ v1 = v2) : extIn e s l l.length = none := by
  have e1 : (l.getD d 0).toNat = q := by rw [hq]; omega
  exact extIn_bad hd h (by rw [e1, h1, h2]; exact hn)
theorem extA_none {ts : List Ten} {ls : List Lst} (h : tensB ts ls = false ∨ extT ts ls ts.length = none) : extA ts ls = none := by
  unfold extA
  rcases h with h | h
  · rw [h]; rfl
  · rw [h]; split <;> rfl
theorem extA_some {ts : List Ten} {ls : List Lst} {x : List Int} (h : tensB ts ls = true) (hx : extT ts ls ts.length = some x) : extA ts ls = some x := by unfold extA; rw [h, hx]; rfl
/-- the answer of ExtentsOf -/
abbrev extL (o : Option (List Int)) : List Int := o.getD []
theorem any_not (xs : List Int) (p : Int → Bool) : xs.any (fun x => !p x) = !xs.all p := by
  induction xs with
  | nil => rfl
  | cons a l ih => rw [List.any_cons, List.all_cons, ih]; cases p a <;> rfl
end Go.Proofs.Ytpgkhjmboiepcaa
