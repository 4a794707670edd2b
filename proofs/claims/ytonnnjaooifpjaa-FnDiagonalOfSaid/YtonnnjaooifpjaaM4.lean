/- Texts of these proofs put together: SvK, SvM, Open, OpenB, DrA, Facts, PureM. No condition. -/
import Derived.Test.YtonnnjaooifpjaaM3
import Derived.Test.YtonnnjaooifpjaaRows
import Derived.Test.YtonnnjaooifpjaaM1
import Derived.WalkKit
import Derived.ProofKit
import Derived.OpenShut
import Derived.ShutString
import Derived.ChangeOld
import Derived.Below
import Derived.Lib.SmallJoins
import Derived.Test.YtonnnjaooifpjaaM2
import Derived.KernelRfl
import Derived.JoinedOf
set_option linter.unusedVariables false
set_option linter.unusedSimpArgs false
/- Walks: a drawn view. -/
namespace Go.Proofs.Ytonnnjaooifpjaa
open Go.RowKit
set_option linter.unusedVariables false
set_option maxRecDepth 100000


/-- a drawn view comes back -/
def GView (rb k : Nat) (w : World) (e : Ending) (w' : World) : Prop := ∃ (b : Int) (s t : List Int) (p1 p2 : Option Addr) (n1 r1 n2 r2 : Nat), e = .returned (.agg #[.int .i64 b, .slice p1 n1 r1, .slice p2 n2 r2]) ∧
 OwnZ w' w.heap.size (.slice p1 n1 r1) s ∧ OwnZ w' w.heap.size (.slice p2 n2 r2) t ∧ (s ≠ [] → t ≠ [] → (Value.slice p1 n1 r1).ownBlock ≠ (Value.slice p2 n2 r2).ownBlock) ∧ t.length = s.length ∧ (s.length ≤ 4 ∧ (s = [] → n2 = 0 ∧ r2 = 0)) ∧ Rd w' rb k ∧ Chg rb (rb + 1) w w'
theorem VAt.open {B g : Nat} {w : World} {b : Int} {u v : Value} {s t : List Int} (h : VAt B g w b u v s t) : ∃ a1 c1 a2 c2, u = .slice a1 s.length c1 ∧ v = .slice a2 t.length c2 := by
 obtain ⟨a1, c1, h1⟩ := (h.o1.ints (by have := h.le; omega)).form
 obtain ⟨a2, c2, h2⟩ := (h.o2.ints (by have := h.le; have := h.fit; omega)).form
 exact ⟨a1, c1, a2, c2, h1, h2⟩

set_option maxHeartbeats 6400000 in
theorem goodView_c (rb k : Nat) (w : World) (hr : Rd w rb k) (hk : k ≤ 800000) :
  Calls Try.prog 125 #[.pointer (some ⟨rb, 0, none⟩)] w (GView rb (k + 200) w) := by
 have hlt := hr.lt
 have X := Rch.refl rb w
 go_enter Try.func125, Try.ntmps125
 go_wp2_with fail
 have Q : VAt (w.heap.size + 1) w.heap.size (w.alloc (.cells #[.int .i64 0, .slice none 0 0, .slice none 0 0] 25)) 0 (.slice none 0 0) (.slice none 0 0) [] [] :=
  VAt.new 0 (.inl ⟨rfl, none, 0, rfl, by simp, fun _ => rfl⟩) (.inl ⟨rfl, none, 0, rfl, by simp, fun _ => rfl⟩) (fun h => absurd rfl h) rfl (by simp)
 refine (goodShape_c rb _ _ (by repeat (first | (with_reducible exact hr) | (with_reducible apply Rd.drewN) | (with_reducible apply Rd.drew) | (with_reducible apply Rd.alloc) | ((with_reducible apply Rd.set2); (· first | assumption | (simp; omega) | (simp; done) | omega)))) (by omega)).mono ?_
 rintro e w1 ⟨v0, xs, rfl, o0, hl0, hr1, C1⟩
 have X1 : Rch rb w w1 := Rch.step (by (try change Rch rb w _); repeat (first | (with_reducible exact X) | (with_reducible exact Rch.refl _ _) | (with_reducible apply Rch.drewN) | (with_reducible apply Rch.drew) | (with_reducible apply Rch.alloc) | (with_reducible refine Rch.set ?_ (by first | assumption | (simp <;> omega) | omega) _))) C1
 have hs1 := X1.size
 replace Q := Q.rch C1 (by omega) (by omega)
 have i0 := o0.ints (by omega)
 clear o0 hr X
 go_wp2_with fail
 refine (newView2_c xs _ _ _ i0).mono ?_
 intro e w2 hE
 obtain ⟨a1, a2, n1, c1, n2, c2, rfl, o1, o2, od, hN, x2⟩ := hE.open
 have hN2 : Hid (newS xs = [] → n2 = 0 ∧ c2 = 0) := Lib.hid (fun h => hN (List.eq_nil_of_length_eq_zero (by rw [newT_len, h]; rfl)))
 clear hN hE
 have hr2 := hr1.ext x2
 have X2 : Rch rb w w2 := X1.ext x2
 have hs2 := x2.size
 replace Q := Q.ext x2
 have hq1 := Q.lt
 have V : VAt (w.heap.size + 1) w2.heap.size (w2.alloc (.cells #[.int .i64 0, .slice a1 n1 c1, .slice a2 n2 c2] 25)) 0 (.slice a1 n1 c1) (.slice a2 n2 c2) (newS xs) (newT xs) :=
  VAt.new 0 (o1.lower (by have := C1.size; simp at this; omega)) (o2.lower (by have := C1.size; simp at this; omega)) od (newT_len xs) (newS_le hl0)
 replace Q := Q.ext (show Ext w2 (w2.alloc (.cells #[.int .i64 0, .slice a1 n1 c1, .slice a2 n2 c2] 25)) from qXt)
 have hr3 : Rd (w2.alloc (.cells #[.int .i64 0, .slice a1 n1 c1, .slice a2 n2 c2] 25)) rb (k + 8) := hr2.alloc _
 have X3 : Rch rb w (w2.alloc (.cells #[.int .i64 0, .slice a1 n1 c1, .slice a2 n2 c2] 25)) := X2.alloc _
 clear o1 o2 od i0 x2 X1 X2 hr1 hr2 C1
 go_wp2_with fail
 generalize w2.alloc (.cells #[.int .i64 0, .slice a1 n1 c1, .slice a2 n2 c2] 25) = w3 at *
 generalize newS xs = s at *
 generalize newT xs = t at *
 have hgv : w.heap.size < w2.heap.size := by omega
 generalize w2.heap.size = gv at *
 refine (pick1_c 10 rb _ _ hr3 (by omega) (by omega)).mono ?_
 rintro e w4 ⟨x4, rfl, hx4, hr4, C4⟩
 have X4 := Rch.step X3 C4
 replace V := V.rch C4 (by omega) (by omega)
 replace Q := Q.rch C4 (by omega) (by omega)
 clear C4 X3 hr3
 go_wp2_with fail
 refine (oneLit_c _ _ _ rb _ _ hr4 (by omega) (by rfl) (by rfl) (by constructor <;> simp) (by first | rfl | simp)).mono ?_
 rintro e w5 ⟨x5, rfl, -, hr5, C5⟩
 have X5 := Rch.step (Rch.alloc X4 _) C5
 replace V := (V.ext ((Ext.refl w4).alloc _)).rch C5 (by omega) (by omega)
 replace Q := (Q.ext ((Ext.refl w4).alloc _)).rch C5 (by omega) (by omega)
 clear C5 X4 hr4 hx4
 have cv0 := V.c0
 have cv1 := V.c1
 have cv2 := V.c2
 have f_cv0 := V.f0
 have f_cv1 := V.f1
 have f_cv2 := V.f2
 have z_cv := V.lt
 go_wp2_with fail
 clear cv0 cv1 cv2 f_cv0 f_cv1 f_cv2
 have zq := Q.lt
 replace Q := Q.chgB ((Chg.refl gv (gv + 1) w5).setCell (p := ⟨gv, 0, none⟩) (Nat.le_refl _) (Nat.lt_succ_self _) (.int .i64 x5)) (by omega) (fun h => absurd rfl h) (fun h => absurd rfl h)
 replace V := V.setBase x5
 generalize hW1 : w5.setCell ⟨gv, 0, none⟩ (.int .i64 x5) = w6 at *
 have hr6 : Rd w6 rb (k + 8 + 1 + 1) := by subst hW1; exact Rd.set2 (show rb < gv by omega) hr5
 have X6 : Rch rb w w6 := by subst hW1; exact X5.set (show w.heap.size ≤ gv by omega) _
 clear hW1
 clear X5 hr5
 refine (pick1_c 4 rb _ _ hr6 (by omega) (by omega)).mono ?_
 rintro e w7 ⟨x7, rfl, hx7, hr7, C7⟩
 have X7 := Rch.step X6 C7
 replace V := V.rch C7 (by omega) (by omega)
 replace Q := Q.rch C7 (by omega) (by omega)
 clear C7 X6 hr6
 obtain ⟨m0, rfl⟩ : ∃ m : Nat, x7 = m := ⟨x7.toNat, by omega⟩
 go_wp2_with fail
 go_loopw [4] (fun i wr => ∃ (m q : Nat) (b : Int) (s t : List Int) (a1 a2 : Option Addr) (n1 c1 n2 c2 : Nat), i = .int .i64 m ∧ (s = [] → n2 = 0 ∧ c2 = 0) ∧ VAt (w.heap.size + 1) gv wr b (.slice a1 n1 c1) (.slice a2 n2 c2) s t ∧ VAt (w.heap.size + 1) w.heap.size wr 0 (.slice none 0 0) (.slice none 0 0) [] [] ∧ Rd wr rb q ∧ q + 40 * m ≤ k + 180 ∧ Rch rb w wr) (fun i _ => (intOf i).toNat)
 case atStart => exact ⟨m0, _, _, _, _, _, _, _, _, _, _, rfl, hN2.out, V, Q, hr7, by omega, X7⟩
 case round =>
  clear V Q hr7 X7
  obtain ⟨m, q, b, s, t, a1, a2, n1, c1, n2, c2, rfl, hN, V, Q, hr, hqm, X⟩ := hrel
  replace hN := Lib.hid hN
  obtain ⟨a1', c1', a2', c2', e1, e2⟩ := V.open
  cases e1; cases e2
  have hl4 := V.le
  have hfit := Lib.hid V.fit
  have hsX := X.size
  by_cases hgo : 0 < m ∧ s ≠ []
  ·
   obtain ⟨hm0, hne⟩ := hgo
   obtain ⟨m', rfl⟩ : ∃ m' : Nat, m = m' + 1 := ⟨m - 1, by omega⟩
   have hmI : (0 : Int) < ((m' + 1 : Nat) : Int) := by omega
   have hsl : 0 < s.length := by cases s; exact absurd rfl hne; simp
   have hsI : (0 : Int) < (s.length : Int) := by omega
   have hmI2 : ((m' + 1 : Nat) : Int) - 1 = (m' : Int) := by omega
   replace hne := Lib.hid hne
   clear hm0
   have cv0 := V.c0
   have cv1 := V.c1
   have cv2 := V.c2
   have f_cv0 := V.f0
   have f_cv1 := V.f1
   have f_cv2 := V.f2
   have z_cv := V.lt
   go_wp2_with fail
   refine (pick1_c (s.length : Int) rb _ _ hr (by omega) (by omega)).mono ?_
   rintro e w8 ⟨d, rfl, hd, hr8, C8⟩
   clear cv0 cv1 cv2 f_cv0 f_cv1 f_cv2
   replace X := Rch.step X C8
   replace V := V.rch C8 (by omega) (by omega)
   replace Q := Q.rch C8 (by omega) (by omega)
   clear C8 hr
   obtain ⟨d, rfl⟩ : ∃ n : Nat, d = n := ⟨d.toNat, by omega⟩
   have hds : d < s.length := by omega
   have hdt : d < t.length := by have := hfit.out; omega
   have cv0 := V.c0
   have cv1 := V.c1
   have cv2 := V.c2
   have f_cv0 := V.f0
   have f_cv1 := V.f1
   have f_cv2 := V.f2
   have z_cv := V.lt
   go_wp2_with fail
   have hb1 := V.o1.bound
   have hb2 := V.o2.bound
   have hgvn := V.lt
   have VN := VAt.new (B := w.heap.size + 1) b V.o1 V.o2 V.sep hfit.out hl4
   generalize hW2 : w8.alloc (.cells #[.int .i64 b, .slice a1 s.length c1, .slice a2 t.length c2] 25) = w9 at *
   have E8 : Ext w8 w9 := by subst hW2; exact qXt
   clear cv0 cv1 cv2 f_cv0 f_cv1 f_cv2
   replace V := V.ext E8
   replace Q := Q.ext E8
   replace X := X.ext E8
   replace hr8 := hr8.ext E8
   clear E8
   clear hW2
   generalize w8.heap.size = gn at *
   have hgn : rb < gn := by omega
   refine (pick1_c 6 rb _ _ hr8 (by omega) (by omega)).mono ?_
   rintro e w10 ⟨x, rfl, hx, hr10, C10⟩
   replace X := Rch.step X C10
   replace V := V.rch C10 (by omega) (by omega)
   replace Q := Q.rch C10 (by omega) (by omega)
   replace VN := VN.rch C10 (by omega) (by omega)
   clear C10 hr8
   go_upto_block 2 with fail
   go_cut [7] (fun s7 wx => NextAt rb q gn gv w b (.slice a1 s.length c1) (.slice a2 t.length c2) s t s7 wx)
   case first =>
    have hx6 : x = 0 ∨ x = 1 ∨ x = 2 ∨ x = 3 ∨ x = 4 ∨ x = 5 := by omega
    clear hx
    replace hb1 := Lib.hid hb1
    replace hb2 := Lib.hid hb2
    rcases hx6 with rfl | rfl | rfl | rfl | rfl | rfl
    ·
     have cv0 := V.c0
     have cv1 := V.c1
     have cv2 := V.c2
     go_wp2_with fail
     refine wp_region_held_drew (S := fun w' => w'.cell? ⟨gv, 0, none⟩ = some (.int .i64 b) ∧ w'.cell? ⟨gv, 1, none⟩ = some (.slice a1 s.length c1) ∧ w'.cell? ⟨gv, 2, none⟩ = some (.slice a2 t.length c2)) qKr ⟨cv0, cv1, cv2⟩ (fun hHeld => ?_)
     replace V := V.ext (show Ext w10 w10.drew from qXt)
     replace Q := Q.ext (show Ext w10 w10.drew from qXt)
     replace VN := VN.ext (show Ext w10 w10.drew from qXt)
     replace X := X.ext (show Ext w10 w10.drew from qXt)
     have hne1 : gv ≠ gn := by omega
     have hne2 : gn ≠ gv := by omega
     refine qHk (v := ?_) 0 rfl (.inl ⟨by rfl, ?_⟩) ?_
     rotate_left
     ·
      (intro w hSw; (try dsimp only at hSw); go_simp; try with_reducible rfl)
     try simp only [Act.put, qa, qb, qc, qD, qE, qF]
     refine qHk (v := ?_) 1 rfl (.inl ⟨by rfl, ?_⟩) ?_
     rotate_left
     ·
      (intro w hSw; (try dsimp only at hSw); go_simp; try with_reducible rfl)
     try simp only [Act.put, qa, qb, qc, qD, qE, qF]
     refine qHk (v := ?_) 2 rfl (.inl ⟨by rfl, ?_⟩) ?_
     rotate_left
     ·
      (intro w hSw; (try dsimp only at hSw); go_simp; try with_reducible rfl)
     try simp only [Act.put, qa, qb, qc, qD, qE, qF]
     refine qHr 3 rfl (fun K hK => ?_)
     try simp only [Act.put, qa, qb, qc, qD, qE, qF]
     go_simp
     refine (someSlice_c rb _ _ (hr10.drew) (by omega)).mono ?_
     rintro e w11 ⟨F, T, B, fh, th, rfl, hr11, C11⟩
     replace X := Rch.step X C11
     replace V := V.rch C11 (by omega) (by omega)
     replace Q := Q.rch C11 (by omega) (by omega)
     replace VN := VN.rch C11 (by omega) (by omega)
     clear C11
     have cv0 := V.c0
     have cv1 := V.c1
     have cv2 := V.c2
     refine hK.out _ _ ⟨cv0, cv1, cv2⟩ (fun hHeld => ?_)
     clear hK K
     try simp only [Act.put, qa, qb, qc, qD, qE, qF]
     refine qHr 4 rfl (fun K hK => ?_)
     try simp only [Act.put, qa, qb, qc, qD, qE, qF]
     go_simp
     have zn := VN.lt
     refine ((specSliceDim_c b _ _ s t d F T B fh th _ _ _ (V.o1.ints (by omega)) (V.o2.ints (by have := hfit.out; omega))).mono (fun _ _ h => PFit.of h (sliceV_fit ..) (sliceV_live hne.out))).mono ?_
     rintro e w12 ⟨b2, s2, t2, ok, p1, p2, m1, r1, m2, r2, rfl, o1, o2, od, hf2, hl2, x12⟩
     replace V := V.ext x12
     replace Q := Q.ext x12
     replace VN := VN.ext x12
     replace X := X.ext x12
     have hrN := hr11.ext x12
     have cv0 := V.c0
     have cv1 := V.c1
     have cv2 := V.c2
     refine hK.out _ _ ⟨cv0, cv1, cv2⟩ (fun hHeld => ?_)
     clear hK K
     try simp only [Act.put, qa, qb, qc, qD, qE, qF]
     refine qHk (v := ?_) 5 rfl (.inl ⟨by rfl, ?_⟩) ?_
     rotate_left
     ·
      (intro w hSw; (try dsimp only at hSw); go_simp; try with_reducible rfl)
     try simp only [Act.put, qa, qb, qc, qD, qE, qF]
     refine qHk (v := ?_) 6 rfl (.inl ⟨by rfl, ?_⟩) ?_
     rotate_left
     ·
      (intro w hSw; (try dsimp only at hSw); go_simp; try with_reducible rfl)
     try simp only [Act.put, qa, qb, qc, qD, qE, qF]
     refine qHk (v := ?_) 7 rfl (.inl ⟨by rfl, ?_⟩) ?_
     rotate_left
     ·
      (intro w hSw; (try dsimp only at hSw); go_simp; try with_reducible rfl)
     try simp only [Act.put, qa, qb, qc, qD, qE, qF]
     have vn0 := VN.c0
     have vn1 := VN.c1
     have vn2 := VN.c2
     have f_vn0 := VN.f0
     have f_vn1 := VN.f1
     have f_vn2 := VN.f2
     have z_vn := VN.lt
     refine qHr 8 rfl (fun K hK => ?_)
     try simp only [Act.put, qa, qb, qc, qD, qE, qF]
     go_simp
     refine hK.out _ _ ⟨(by go_simp), (by go_simp), (by go_simp)⟩ (fun hHeld => ?_)
     clear hK K
     try simp only [Act.put, qa, qb, qc, qD, qE, qF]
     refine qHk (v := ?_) 9 rfl (.inl ⟨by rfl, ?_⟩) ?_
     rotate_left
     ·
      (intro w hSw; (try dsimp only at hSw); go_simp; try with_reducible rfl)
     try simp only [Act.put, qa, qb, qc, qD, qE, qF]
     clear hne1 hne2
     refine wpAnyH_done qKr ?_ _
     clear hHeld
     clear vn0 vn1 vn2 f_vn0 f_vn1 f_vn2
     repeat go_step
     go_meet
     case rel => exact NextAt.put _ VN V Q (hrN.mono (by omega)) X hlt hgv hgvn hb1.out hb2.out o1 o2 od hf2 hl2 (by first | omega | (simp; omega))
    ·
     have zn := VN.lt
     have cv0 := V.c0
     have cv1 := V.c1
     have cv2 := V.c2
     go_wp2_with fail
     refine ((specFlipDim_c b _ _ s t d _ _ _ (V.o1.ints (by omega)) (V.o2.ints (by have := hfit.out; omega))).mono (fun _ _ h => PFit.of h (sliceV_fit ..) (sliceV_live hne.out))).mono ?_
     rintro e w12 ⟨b2, s2, t2, ok, p1, p2, m1, r1, m2, r2, rfl, o1, o2, od, hf2, hl2, x12⟩
     replace V := V.ext x12
     replace Q := Q.ext x12
     replace VN := VN.ext x12
     replace X := X.ext x12
     have hrN := hr10.ext x12
     clear cv0 cv1 cv2
     have vn0 := VN.c0
     have vn1 := VN.c1
     have vn2 := VN.c2
     have f_vn0 := VN.f0
     have f_vn1 := VN.f1
     have f_vn2 := VN.f2
     have z_vn := VN.lt
     go_wp2_with fail
     clear vn0 vn1 vn2 f_vn0 f_vn1 f_vn2
     go_meet
     case rel => exact NextAt.put _ VN V Q (hrN.mono (by omega)) X hlt hgv hgvn hb1.out hb2.out o1 o2 od hf2 hl2 (by first | omega | (simp; omega))
    ·
     have cv0 := V.c0
     have cv1 := V.c1
     have cv2 := V.c2
     go_wp2_with fail
     refine wp_region_held_drew (S := fun w' => w'.cell? ⟨gv, 0, none⟩ = some (.int .i64 b) ∧ w'.cell? ⟨gv, 1, none⟩ = some (.slice a1 s.length c1) ∧ w'.cell? ⟨gv, 2, none⟩ = some (.slice a2 t.length c2)) qKr ⟨cv0, cv1, cv2⟩ (fun hHeld => ?_)
     replace V := V.ext (show Ext w10 w10.drew from qXt)
     replace Q := Q.ext (show Ext w10 w10.drew from qXt)
     replace VN := VN.ext (show Ext w10 w10.drew from qXt)
     replace X := X.ext (show Ext w10 w10.drew from qXt)
     have hne1 : gv ≠ gn := by omega
     have hne2 : gn ≠ gv := by omega
     refine qHk (v := ?_) 0 rfl (.inl ⟨by rfl, ?_⟩) ?_
     rotate_left
     ·
      (intro w hSw; (try dsimp only at hSw); go_simp; try with_reducible rfl)
     try simp only [Act.put, qa, qb, qc, qD, qE, qF]
     refine qHk (v := ?_) 1 rfl (.inl ⟨by rfl, ?_⟩) ?_
     rotate_left
     ·
      (intro w hSw; (try dsimp only at hSw); go_simp; try with_reducible rfl)
     try simp only [Act.put, qa, qb, qc, qD, qE, qF]
     refine qHk (v := ?_) 2 rfl (.inl ⟨by rfl, ?_⟩) ?_
     rotate_left
     ·
      (intro w hSw; (try dsimp only at hSw); go_simp; try with_reducible rfl)
     try simp only [Act.put, qa, qb, qc, qD, qE, qF]
     refine qHk (v := ?_) 3 rfl (.inl ⟨by rfl, ?_⟩) ?_
     rotate_left
     ·
      (intro w hSw; (try dsimp only at hSw); go_simp; try with_reducible rfl)
     try simp only [Act.put, qa, qb, qc, qD, qE, qF]
     refine qHr 4 rfl (fun K hK => ?_)
     try simp only [Act.put, qa, qb, qc, qD, qE, qF]
     go_simp
     refine (supTo_c s.length _ (by omega)).mono ?_
     rintro e w11 ⟨v11, rfl, i11, -, x11⟩
     replace V := V.ext x11
     replace Q := Q.ext x11
     replace VN := VN.ext x11
     replace X := X.ext x11
     have hr11 := (hr10.drew).ext x11
     obtain ⟨ap, np, cp, rfl⟩ := i11.any
     have cv0 := V.c0
     have cv1 := V.c1
     have cv2 := V.c2
     refine hK.out _ _ ⟨cv0, cv1, cv2⟩ (fun hHeld => ?_)
     clear hK K
     try simp only [Act.put, qa, qb, qc, qD, qE, qF]
     refine qHr 5 rfl (fun K hK => ?_)
     try simp only [Act.put, qa, qb, qc, qD, qE, qF]
     go_simp
     refine (reversed_c _ _ _ _ i11).mono ?_
     rintro e w13 ⟨v13, rfl, i13, -, x13⟩
     replace V := V.ext x13
     replace Q := Q.ext x13
     replace VN := VN.ext x13
     replace X := X.ext x13
     have hr13 := hr11.ext x13
     obtain ⟨aq, nq, cq, rfl⟩ := i13.any
     have cv0 := V.c0
     have cv1 := V.c1
     have cv2 := V.c2
     refine hK.out _ _ ⟨cv0, cv1, cv2⟩ (fun hHeld => ?_)
     clear hK K
     try simp only [Act.put, qa, qb, qc, qD, qE, qF]
     refine qHr 6 rfl (fun K hK => ?_)
     try simp only [Act.put, qa, qb, qc, qD, qE, qF]
     go_simp
     have zn := VN.lt
     refine ((specPermuteDims_c b _ _ s t _ _ _ _ _ (V.o1.ints (by omega)) (V.o2.ints (by have := hfit.out; omega)) _ i13).mono (fun _ _ h => PFit.of h (permV_fit ..) (permV_live hne.out))).mono ?_
     rintro e w12 ⟨b2, s2, t2, ok, p1, p2, m1, r1, m2, r2, rfl, o1, o2, od, hf2, hl2, x12⟩
     replace V := V.ext x12
     replace Q := Q.ext x12
     replace VN := VN.ext x12
     replace X := X.ext x12
     have hrN := hr13.ext x12
     have cv0 := V.c0
     have cv1 := V.c1
     have cv2 := V.c2
     refine hK.out _ _ ⟨cv0, cv1, cv2⟩ (fun hHeld => ?_)
     clear hK K
     try simp only [Act.put, qa, qb, qc, qD, qE, qF]
     refine qHk (v := ?_) 7 rfl (.inl ⟨by rfl, ?_⟩) ?_
     rotate_left
     ·
      (intro w hSw; (try dsimp only at hSw); go_simp; try with_reducible rfl)
     try simp only [Act.put, qa, qb, qc, qD, qE, qF]
     refine qHk (v := ?_) 8 rfl (.inl ⟨by rfl, ?_⟩) ?_
     rotate_left
     ·
      (intro w hSw; (try dsimp only at hSw); go_simp; try with_reducible rfl)
     try simp only [Act.put, qa, qb, qc, qD, qE, qF]
     refine qHk (v := ?_) 9 rfl (.inl ⟨by rfl, ?_⟩) ?_
     rotate_left
     ·
      (intro w hSw; (try dsimp only at hSw); go_simp; try with_reducible rfl)
     try simp only [Act.put, qa, qb, qc, qD, qE, qF]
     have vn0 := VN.c0
     have vn1 := VN.c1
     have vn2 := VN.c2
     have f_vn0 := VN.f0
     have f_vn1 := VN.f1
     have f_vn2 := VN.f2
     have z_vn := VN.lt
     refine qHr 10 rfl (fun K hK => ?_)
     try simp only [Act.put, qa, qb, qc, qD, qE, qF]
     go_simp
     refine hK.out _ _ ⟨(by go_simp), (by go_simp), (by go_simp)⟩ (fun hHeld => ?_)
     clear hK K
     try simp only [Act.put, qa, qb, qc, qD, qE, qF]
     refine qHk (v := ?_) 11 rfl (.inl ⟨by rfl, ?_⟩) ?_
     rotate_left
     ·
      (intro w hSw; (try dsimp only at hSw); go_simp; try with_reducible rfl)
     try simp only [Act.put, qa, qb, qc, qD, qE, qF]
     clear hne1 hne2
     refine wpAnyH_done qKr ?_ _
     clear hHeld
     clear vn0 vn1 vn2 f_vn0 f_vn1 f_vn2
     repeat go_step
     go_meet
     case rel => exact NextAt.put _ VN V Q (hrN.mono (by omega)) X hlt hgv hgvn hb1.out hb2.out o1 o2 od hf2 hl2 (by first | omega | (simp; omega))
    ·
     have cv0 := V.c0
     have cv1 := V.c1
     have cv2 := V.c2
     go_wp2_with fail
     refine wp_region_held_drew (S := fun w' => w'.cell? ⟨gv, 0, none⟩ = some (.int .i64 b) ∧ w'.cell? ⟨gv, 1, none⟩ = some (.slice a1 s.length c1) ∧ w'.cell? ⟨gv, 2, none⟩ = some (.slice a2 t.length c2)) qKr ⟨cv0, cv1, cv2⟩ (fun hHeld => ?_)
     replace V := V.ext (show Ext w10 w10.drew from qXt)
     replace Q := Q.ext (show Ext w10 w10.drew from qXt)
     replace VN := VN.ext (show Ext w10 w10.drew from qXt)
     replace X := X.ext (show Ext w10 w10.drew from qXt)
     have hne1 : gv ≠ gn := by omega
     have hne2 : gn ≠ gv := by omega
     refine qHk (v := ?_) 0 rfl (.inl ⟨by rfl, ?_⟩) ?_
     rotate_left
     ·
      (intro w hSw; (try dsimp only at hSw); go_simp; try with_reducible rfl)
     try simp only [Act.put, qa, qb, qc, qD, qE, qF]
     refine qHk (v := ?_) 1 rfl (.inl ⟨by rfl, ?_⟩) ?_
     rotate_left
     ·
      (intro w hSw; (try dsimp only at hSw); go_simp; try with_reducible rfl)
     try simp only [Act.put, qa, qb, qc, qD, qE, qF]
     refine qHk (v := ?_) 2 rfl (.inl ⟨by rfl, ?_⟩) ?_
     rotate_left
     ·
      (intro w hSw; (try dsimp only at hSw); go_simp; try with_reducible rfl)
     try simp only [Act.put, qa, qb, qc, qD, qE, qF]
     refine qHr 3 rfl (fun K hK => ?_)
     try simp only [Act.put, qa, qb, qc, qD, qE, qF]
     go_simp
     refine (pick1_c 3 rb _ _ (hr10.drew) (by omega) (by omega)).mono ?_
     rintro e w11 ⟨y, rfl, hy, hr11, C11⟩
     replace X := Rch.step X C11
     replace V := V.rch C11 (by omega) (by omega)
     replace Q := Q.rch C11 (by omega) (by omega)
     replace VN := VN.rch C11 (by omega) (by omega)
     clear C11
     have hw1 : IntKind.i64.wrap (1 + y) = 1 + y := IntWalk.i64_in _ (by omega)
     have cv0 := V.c0
     have cv1 := V.c1
     have cv2 := V.c2
     refine hK.out _ _ ⟨cv0, cv1, cv2⟩ (fun hHeld => ?_)
     clear hK K
     try simp only [Act.put, qa, qb, qc, qD, qE, qF]
     refine qHk (v := ?_) 4 rfl (.inl ⟨by rfl, ?_⟩) ?_
     rotate_left
     ·
      (intro w hSw; (try dsimp only at hSw); go_simp; try with_reducible rfl)
     try simp only [Act.put, qa, qb, qc, qD, qE, qF]
     refine qHr 5 rfl (fun K hK => ?_)
     try simp only [Act.put, qa, qb, qc, qD, qE, qF]
     go_simp
     have zn := VN.lt
     refine ((specWindowsOf_c b _ _ s t d (1 + y) _ _ _ (V.o1.ints (by omega)) (V.o2.ints (by have := hfit.out; omega)) (by omega)).mono (fun _ _ h => PFit.of h (winV_fit ..) (winV_live))).mono ?_
     clear hw1
     rintro e w12 ⟨b2, s2, t2, ok, p1, p2, m1, r1, m2, r2, rfl, o1, o2, od, hf2, hl2, x12⟩
     replace V := V.ext x12
     replace Q := Q.ext x12
     replace VN := VN.ext x12
     replace X := X.ext x12
     have hrN := hr11.ext x12
     have cv0 := V.c0
     have cv1 := V.c1
     have cv2 := V.c2
     refine hK.out _ _ ⟨cv0, cv1, cv2⟩ (fun hHeld => ?_)
     clear hK K
     try simp only [Act.put, qa, qb, qc, qD, qE, qF]
     refine qHk (v := ?_) 6 rfl (.inl ⟨by rfl, ?_⟩) ?_
     rotate_left
     ·
      (intro w hSw; (try dsimp only at hSw); go_simp; try with_reducible rfl)
     try simp only [Act.put, qa, qb, qc, qD, qE, qF]
     refine qHk (v := ?_) 7 rfl (.inl ⟨by rfl, ?_⟩) ?_
     rotate_left
     ·
      (intro w hSw; (try dsimp only at hSw); go_simp; try with_reducible rfl)
     try simp only [Act.put, qa, qb, qc, qD, qE, qF]
     refine qHk (v := ?_) 8 rfl (.inl ⟨by rfl, ?_⟩) ?_
     rotate_left
     ·
      (intro w hSw; (try dsimp only at hSw); go_simp; try with_reducible rfl)
     try simp only [Act.put, qa, qb, qc, qD, qE, qF]
     have vn0 := VN.c0
     have vn1 := VN.c1
     have vn2 := VN.c2
     have f_vn0 := VN.f0
     have f_vn1 := VN.f1
     have f_vn2 := VN.f2
     have z_vn := VN.lt
     refine qHr 9 rfl (fun K hK => ?_)
     try simp only [Act.put, qa, qb, qc, qD, qE, qF]
     go_simp
     refine hK.out _ _ ⟨(by go_simp), (by go_simp), (by go_simp)⟩ (fun hHeld => ?_)
     clear hK K
     try simp only [Act.put, qa, qb, qc, qD, qE, qF]
     refine qHk (v := ?_) 10 rfl (.inl ⟨by rfl, ?_⟩) ?_
     rotate_left
     ·
      (intro w hSw; (try dsimp only at hSw); go_simp; try with_reducible rfl)
     try simp only [Act.put, qa, qb, qc, qD, qE, qF]
     clear hne1 hne2
     refine wpAnyH_done qKr ?_ _
     clear hHeld
     clear vn0 vn1 vn2 f_vn0 f_vn1 f_vn2
     repeat go_step
     go_meet
     case rel => exact NextAt.put _ VN V Q (hrN.mono (by omega)) X hlt hgv hgvn hb1.out hb2.out o1 o2 od hf2 hl2 (by first | omega | (simp; omega))
    ·
     have zn := VN.lt
     have cv0 := V.c0
     have cv1 := V.c1
     have cv2 := V.c2
     go_wp2_with fail
     refine ((specAddDim_c b _ _ s t d _ _ _ (V.o1.ints (by omega)) (V.o2.ints (by have := hfit.out; omega))).mono (fun _ _ h => PFit.of h (addV_fit ..) (addV_live))).mono ?_
     rintro e w12 ⟨b2, s2, t2, ok, p1, p2, m1, r1, m2, r2, rfl, o1, o2, od, hf2, hl2, x12⟩
     replace V := V.ext x12
     replace Q := Q.ext x12
     replace VN := VN.ext x12
     replace X := X.ext x12
     have hrN := hr10.ext x12
     clear cv0 cv1 cv2
     have vn0 := VN.c0
     have vn1 := VN.c1
     have vn2 := VN.c2
     have f_vn0 := VN.f0
     have f_vn1 := VN.f1
     have f_vn2 := VN.f2
     have z_vn := VN.lt
     go_wp2_with fail
     clear vn0 vn1 vn2 f_vn0 f_vn1 f_vn2
     go_meet
     case rel => exact NextAt.put _ VN V Q (hrN.mono (by omega)) X hlt hgv hgvn hb1.out hb2.out o1 o2 od hf2 hl2 (by first | omega | (simp; omega))
    ·
     have zn := VN.lt
     have hdI0 : (0 : Int) ≤ (d : Int) := by omega
     have hdtI : (d : Int) < (t.length : Int) := by omega
     have hnet : t ≠ [] := by intro h; subst h; simp at hdt
     have cv0 := V.c0
     have cv1 := V.c1
     have cv2 := V.c2
     go_wp2_with fail
     refine (scopyView_c b _ _ s t _ _ _ (V.o1.ints (by omega)) (V.o2.ints (by have := hfit.out; omega))).mono ?_
     rintro e w12 ⟨sh2, st2, rfl, -, -, o1, o2, od, x12⟩
     replace V := V.ext x12
     replace Q := Q.ext x12
     replace VN := VN.ext x12
     replace X := X.ext x12
     have hr12 := hr10.ext x12
     clear cv0 cv1 cv2 x12 hr10
     obtain ⟨p1, m1, r1, rfl⟩ := o1.form
     obtain ⟨g2, r2, rfl, G2, -⟩ := (o2.ofNe hnet).row hnet
     have vn0 := VN.c0
     have vn1 := VN.c1
     have vn2 := VN.c2
     have f_vn0 := VN.f0
     have f_vn1 := VN.f1
     have f_vn2 := VN.f2
     have z_vn := VN.lt
     go_wp2_with fail
     clear vn0 vn1 vn2 f_vn0 f_vn1 f_vn2
     replace VN := VAt.put (B := gn + 1) (b := b) VN.c0 VN.c1 VN.c2 VN.f0 VN.f1 VN.f2 (o1.lower (by omega)) (o2.lower (by omega)) od hfit.out hl4 (Nat.lt_succ_self _)
     replace V := V.chgB (Chg.three (lo := gn) w12 (.int .i64 b) (.slice p1 m1 r1) (.slice (some ⟨g2, 0, none⟩) t.length r2)) hgvn hb1.out hb2.out
     replace Q := Q.chgB (Chg.three (lo := gn) w12 (.int .i64 b) (.slice p1 m1 r1) (.slice (some ⟨g2, 0, none⟩) t.length r2)) (by omega) (fun h => absurd rfl h) (fun h => absurd rfl h)
     replace X := ((X.set (a := ⟨gn, 0, none⟩) (show w.heap.size ≤ gn by omega) (.int .i64 b)).set (a := ⟨gn, 1, none⟩) (show w.heap.size ≤ gn by omega) (.slice p1 m1 r1)).set (a := ⟨gn, 2, none⟩) (show w.heap.size ≤ gn by omega) (.slice (some ⟨g2, 0, none⟩) t.length r2)
     replace hr12 := Rd.set2 (a := ⟨gn, 2, none⟩) (u := .slice (some ⟨g2, 0, none⟩) t.length r2) (show rb < gn by omega) (Rd.set2 (a := ⟨gn, 1, none⟩) (u := .slice p1 m1 r1) (show rb < gn by omega) (Rd.set2 (a := ⟨gn, 0, none⟩) (u := .int .i64 b) (show rb < gn by omega) hr12))
     clear o1 o2 od
     generalize ((w12.setCell ⟨gn, 0, none⟩ (.int .i64 b)).setCell ⟨gn, 1, none⟩ (.slice p1 m1 r1)).setCell ⟨gn, 2, none⟩ (.slice (some ⟨g2, 0, none⟩) t.length r2) = w13 at *
     have vn2 := VN.c2
     refine wp_region_tail (S := fun w' => w'.cell? ⟨gn, 2, none⟩ = some (.slice (some ⟨g2, 0, none⟩) t.length r2)) (fun i => decide (7 ≤ i)) qKr vn2 (fun hHeld => ?_)
     refine qTk (v := ?_) 0 rfl (.inl ⟨by rfl, ?_⟩) ?_
     rotate_left
     ·
      (intro w hSw; (try dsimp only at hSw); go_simp; try with_reducible rfl)
     try simp only [Act.put, qa, qb, qc, qD, qE, qF]
     refine qTk (v := ?_) 1 rfl (.inl ⟨by rfl, ?_⟩) ?_
     rotate_left
     ·
      (intro w hSw; (try dsimp only at hSw); go_simp; try with_reducible rfl)
     try simp only [Act.put, qa, qb, qc, qD, qE, qF]
     refine qTk (v := ?_) 2 rfl (.inl ⟨by rfl, ?_⟩) ?_
     rotate_left
     ·
      (intro w hSw; (try dsimp only at hSw); go_simp; try with_reducible rfl)
     try simp only [Act.put, qa, qb, qc, qD, qE, qF]
     refine qTk (v := ?_) 3 rfl (.inl ⟨by rfl, ?_⟩) ?_
     rotate_left
     ·
      (intro w hSw; (try dsimp only at hSw); go_simp; try with_reducible rfl)
     try simp only [Act.put, qa, qb, qc, qD, qE, qF]
     refine wpTail_one (i := 4) qKr rfl rfl (fun K hK => ?_)
     try simp only [Act.put, qa, qb, qc, qD, qE, qF]
     go_simp
     have EE : Ext w13 (w13.drew.alloc (.cells #[.int .i64 0, .int .i64 2, .int .i64 3, .int .i64 1, .int .i64 (-1), .int .i64 5] 3)) := qXt
     refine hK.out _ _ (EE.cell vn2) (fun hHeld => ?_)
     clear hK K
     try simp only [Act.put, qa, qb, qc, qD, qE, qF]
     refine wpTail_one (i := 5) qKr rfl rfl (fun K hK => ?_)
     try simp only [Act.put, qa, qb, qc, qD, qE, qF]
     go_simp
     refine (oneLit_c _ _ _ rb _ _ hr12.drew (by omega) (by rfl) (by rfl) (by constructor <;> simp) (by first | rfl | simp)).mono ?_
     rintro e w14 ⟨y, rfl, -, hr14, C14⟩
     replace X := Rch.step (X.ext EE) C14
     replace V := (V.ext EE).rch C14 (by omega) (by omega)
     replace Q := (Q.ext EE).rch C14 (by omega) (by omega)
     replace VN := (VN.ext EE).rch C14 (by omega) (by omega)
     clear C14 EE hr12
     replace vn2 := VN.c2
     refine hK.out _ _ vn2 (fun hHeld => ?_)
     clear hK K
     try simp only [Act.put, qa, qb, qc, qD, qE, qF]
     refine qTk (v := ?_) 6 rfl (.inl ⟨by rfl, ?_⟩) ?_
     rotate_left
     ·
      (intro w hSw; (try dsimp only at hSw); go_simp; try with_reducible rfl)
     try simp only [Act.put, qa, qb, qc, qD, qE, qF]
     obtain ⟨A1, A2⟩ := (VN.o2.ofNe hnet).cell d hdt
     refine wpTail_last (i := 7) qKr rfl rfl (fun K hK => ?_)
     try simp only [Act.put, qa, qb, qc, qD, qE, qF]
     go_simp
     refine hK.out _ _ ?_
     clear hK K
     try simp only [Act.put, qa, qb, qc, qD, qE, qF]
     refine wpTail_done qKr ?_ _
     clear hHeld A1 A2 vn2
     replace V := V.chgB ((Chg.refl g2 (g2 + 1) w14).setCell (p := ⟨g2, d, none⟩) (Nat.le_refl _) (Nat.lt_succ_self _) (.int .i64 y)) (by omega) (fun h q hq => by have := hb1.out h q hq; omega) (fun h q hq => by have := hb2.out h q hq; omega)
     replace Q := Q.chgB ((Chg.refl g2 (g2 + 1) w14).setCell (p := ⟨g2, d, none⟩) (Nat.le_refl _) (Nat.lt_succ_self _) (.int .i64 y)) (by omega) (fun h => absurd rfl h) (fun h => absurd rfl h)
     replace VN := VN.setT hdt y
     replace X := X.set (a := ⟨g2, d, none⟩) (show w.heap.size ≤ g2 by omega) (.int .i64 y)
     replace hr14 := Rd.set2 (a := ⟨g2, d, none⟩) (u := .int .i64 y) (show rb < g2 by omega) hr14
     generalize w14.setCell ⟨g2, d, none⟩ (.int .i64 y) = w15 at *
     go_wp2_with fail
     go_meet
     case rel => exact ⟨true, b, s, t.set d y, _, _, _, _, _, _, rfl, fun _ => hne.out, VN, V, Q, hr14.mono (by omega), X⟩
   case rest =>
    obtain ⟨o, b2, s2, t2, p1, p2, m1, r1, m2, r2, rfl, hlive, VN, V, Q, hr, X⟩ := hcut
    replace hlive := Lib.hid hlive
    cases o
    ·
     go_wp2_with fail
     go_roundw
     case rel => exact ⟨m', q + 20, b, s, t, a1, a2, _, c1, _, c2, by first | rfl | go_num, fun h => absurd h hne.out, V, Q, hr, by omega, X⟩
     case measure => simp [intOf]
    ·
     have le2 := VN.le
     have fit2 := Lib.hid VN.fit
     have vn0 := VN.c0
     have vn1 := VN.c1
     have vn2 := VN.c2
     have f_vn0 := VN.f0
     have f_vn1 := VN.f1
     have f_vn2 := VN.f2
     have z_vn := VN.lt
     go_wp2_with fail
     refine (validView_c b2 _ _ s2 t2 _ _ _ (VN.o1.ints (by omega)) (VN.o2.ints (by have := fit2.out; omega))).mono ?_
     rintro e w20 ⟨rfl, x20⟩
     clear vn0 vn1 vn2 f_vn0 f_vn1 f_vn2
     replace V := V.ext x20
     replace Q := Q.ext x20
     replace VN := VN.ext x20
     replace X := X.ext x20
     replace hr := hr.ext x20
     clear x20
     generalize viewB b2 s2 t2 = vb
     cases vb
     ·
      go_wp2_with fail
      go_roundw
      case rel => exact ⟨m', q + 20, b, s, t, a1, a2, _, c1, _, c2, by first | rfl | go_num, fun h => absurd h hne.out, V, Q, hr, by omega, X⟩
      case measure => simp [intOf]
     ·
      have vn0 := VN.c0
      have vn1 := VN.c1
      have vn2 := VN.c2
      have f_vn0 := VN.f0
      have f_vn1 := VN.f1
      have f_vn2 := VN.f2
      have z_vn := VN.lt
      have cv0 := V.c0
      have cv1 := V.c1
      have cv2 := V.c2
      have f_cv0 := V.f0
      have f_cv1 := V.f1
      have f_cv2 := V.f2
      have z_cv := V.lt
      go_wp2_with fail
      clear vn0 vn1 vn2 f_vn0 f_vn1 f_vn2
      clear cv0 cv1 cv2 f_cv0 f_cv1 f_cv2
      go_roundw
      case rel => exact ⟨m', q + 20, b2, s2, t2, p1, p2, m1, r1, m2, r2, by first | rfl | go_num, fun h => absurd h (hlive.out (by first | rfl | trivial)), (VAt.put (B := gn + 1) V.c0 V.c1 V.c2 V.f0 V.f1 V.f2 VN.o1 VN.o2 VN.sep VN.fit VN.le (by omega)).lower (by omega), Q.chgB (Chg.three _ _ _ _) (by omega) (fun h => absurd rfl h) (fun h => absurd rfl h), Rd.set2 (show rb < gv by omega) (Rd.set2 (show rb < gv by omega) (Rd.set2 (show rb < gv by omega) hr)), by omega, ((X.set (show w.heap.size ≤ gv by omega) _).set (show w.heap.size ≤ gv by omega) _).set (show w.heap.size ≤ gv by omega) _⟩
      case measure => simp [intOf]
  ·
   have hex : m = 0 ∨ (0 < m ∧ s.length = 0) := by
    by_cases h0 : m = 0
    ·
     exact .inl h0
    ·
     refine .inr ⟨by omega, ?_⟩
     apply Classical.byContradiction
     intro h; exact hgo ⟨by omega, fun h2 => h (by rw [h2]; rfl)⟩
   clear hgo
   rcases hex with rfl | ⟨hm0, hs0⟩
   ·
    have hmI : ¬ (0 : Int) < ((0 : Nat) : Int) := by omega
    have cv0 := V.c0
    have cv1 := V.c1
    have cv2 := V.c2
    have f_cv0 := V.f0
    have f_cv1 := V.f1
    have f_cv2 := V.f2
    have z_cv := V.lt
    go_wp2_with fail
    refine (validView_c b _ _ s t _ _ _ (V.o1.ints (by omega)) (V.o2.ints (by have := hfit.out; omega))).mono ?_
    rintro e w20 ⟨rfl, x20⟩
    clear cv0 cv1 cv2 f_cv0 f_cv1 f_cv2
    replace V := V.ext x20
    replace Q := Q.ext x20
    replace X := X.ext x20
    replace hr := hr.ext x20
    clear x20
    have hzw := Q.lt
    generalize viewB b s t = vb
    cases vb
    ·
     have cv0 := V.c0
     have cv1 := V.c1
     have cv2 := V.c2
     have f_cv0 := V.f0
     have f_cv1 := V.f1
     have f_cv2 := V.f2
     have z_cv := V.lt
     have cq0 := Q.c0
     have cq1 := Q.c1
     have cq2 := Q.c2
     have f_cq0 := Q.f0
     have f_cq1 := Q.f1
     have f_cq2 := Q.f2
     have z_cq := Q.lt
     have hq1 : w.heap.size ≠ gv := by omega
     have hq2 : gv ≠ w.heap.size := by omega
     go_wp2_with fail
     clear cv0 cv1 cv2 f_cv0 f_cv1 f_cv2
     clear cq0 cq1 cq2 f_cq0 f_cq1 f_cq2
     replace V := V.setBase 0
     replace Q := Q.chgB ((Chg.refl gv (gv + 1) w20).setCell (p := ⟨gv, 0, none⟩) (Nat.le_refl _) (Nat.lt_succ_self _) (.int .i64 0)) (by omega) (fun h => absurd rfl h) (fun h => absurd rfl h)
     replace X := X.set (a := ⟨gv, 0, none⟩) (show w.heap.size ≤ gv by omega) (.int .i64 0)
     replace hr := Rd.set2 (a := ⟨gv, 0, none⟩) (u := .int .i64 0) (show rb < gv by omega) hr
     generalize w20.setCell ⟨gv, 0, none⟩ (.int .i64 0) = w21 at *
     have cq0 := Q.c0
     have cq1 := Q.c1
     have cq2 := Q.c2
     have f_cq0 := Q.f0
     have f_cq1 := Q.f1
     have f_cq2 := Q.f2
     have z_cq := Q.lt
     refine bodyPost_ret (v := .agg #[.int .i64 0, .slice a1 s.length c1, .slice a2 t.length c2]) (by simp only [results, Try.results125]; go_simp) rfl ?_
     clear cq0 cq1 cq2 f_cq0 f_cq1 f_cq2
     replace V := V.chg (Chg.three (lo := w.heap.size) w21 (.int .i64 0) (.slice a1 s.length c1) (.slice a2 t.length c2)) (by omega) (Nat.le_refl _)
     replace X := ((X.set (a := ⟨w.heap.size, 0, none⟩) (show w.heap.size ≤ w.heap.size by omega) (.int .i64 0)).set (a := ⟨w.heap.size, 1, none⟩) (show w.heap.size ≤ w.heap.size by omega) (.slice a1 s.length c1)).set (a := ⟨w.heap.size, 2, none⟩) (show w.heap.size ≤ w.heap.size by omega) (.slice a2 t.length c2)
     replace hr := Rd.set2 (a := ⟨w.heap.size, 2, none⟩) (u := .slice a2 t.length c2) (show rb < w.heap.size by omega) (Rd.set2 (a := ⟨w.heap.size, 1, none⟩) (u := .slice a1 s.length c1) (show rb < w.heap.size by omega) (Rd.set2 (a := ⟨w.heap.size, 0, none⟩) (u := .int .i64 0) (show rb < w.heap.size by omega) hr))
     generalize ((w21.setCell ⟨w.heap.size, 0, none⟩ (.int .i64 0)).setCell ⟨w.heap.size, 1, none⟩ (.slice a1 s.length c1)).setCell ⟨w.heap.size, 2, none⟩ (.slice a2 t.length c2) = w30 at *
     exact ⟨0, s, t, a1, a2, _, c1, _, c2, rfl, V.o1.lower (by omega), V.o2.lower (by omega), V.sep, V.fit, ⟨V.le, hN.out⟩, hr.mono (by omega), X⟩
    ·
     have cv0 := V.c0
     have cv1 := V.c1
     have cv2 := V.c2
     have f_cv0 := V.f0
     have f_cv1 := V.f1
     have f_cv2 := V.f2
     have z_cv := V.lt
     have cq0 := Q.c0
     have cq1 := Q.c1
     have cq2 := Q.c2
     have f_cq0 := Q.f0
     have f_cq1 := Q.f1
     have f_cq2 := Q.f2
     have z_cq := Q.lt
     have hq1 : w.heap.size ≠ gv := by omega
     have hq2 : gv ≠ w.heap.size := by omega
     go_wp2_with fail
     clear cv0 cv1 cv2 f_cv0 f_cv1 f_cv2
     refine bodyPost_ret (v := .agg #[.int .i64 b, .slice a1 s.length c1, .slice a2 t.length c2]) (by simp only [results, Try.results125]; go_simp) rfl ?_
     clear cq0 cq1 cq2 f_cq0 f_cq1 f_cq2
     replace V := V.chg (Chg.three (lo := w.heap.size) w20 (.int .i64 b) (.slice a1 s.length c1) (.slice a2 t.length c2)) (by omega) (Nat.le_refl _)
     replace X := ((X.set (a := ⟨w.heap.size, 0, none⟩) (show w.heap.size ≤ w.heap.size by omega) (.int .i64 b)).set (a := ⟨w.heap.size, 1, none⟩) (show w.heap.size ≤ w.heap.size by omega) (.slice a1 s.length c1)).set (a := ⟨w.heap.size, 2, none⟩) (show w.heap.size ≤ w.heap.size by omega) (.slice a2 t.length c2)
     replace hr := Rd.set2 (a := ⟨w.heap.size, 2, none⟩) (u := .slice a2 t.length c2) (show rb < w.heap.size by omega) (Rd.set2 (a := ⟨w.heap.size, 1, none⟩) (u := .slice a1 s.length c1) (show rb < w.heap.size by omega) (Rd.set2 (a := ⟨w.heap.size, 0, none⟩) (u := .int .i64 b) (show rb < w.heap.size by omega) hr))
     generalize ((w20.setCell ⟨w.heap.size, 0, none⟩ (.int .i64 b)).setCell ⟨w.heap.size, 1, none⟩ (.slice a1 s.length c1)).setCell ⟨w.heap.size, 2, none⟩ (.slice a2 t.length c2) = w30 at *
     exact ⟨b, s, t, a1, a2, _, c1, _, c2, rfl, V.o1.lower (by omega), V.o2.lower (by omega), V.sep, V.fit, ⟨V.le, hN.out⟩, hr.mono (by omega), X⟩
   ·
    have hmI : (0 : Int) < (m : Int) := by omega
    have hsI : ¬ (0 : Int) < (s.length : Int) := by omega
    clear hs0
    have cv0 := V.c0
    have cv1 := V.c1
    have cv2 := V.c2
    have f_cv0 := V.f0
    have f_cv1 := V.f1
    have f_cv2 := V.f2
    have z_cv := V.lt
    go_wp2_with fail
    refine (validView_c b _ _ s t _ _ _ (V.o1.ints (by omega)) (V.o2.ints (by have := hfit.out; omega))).mono ?_
    rintro e w20 ⟨rfl, x20⟩
    clear cv0 cv1 cv2 f_cv0 f_cv1 f_cv2
    replace V := V.ext x20
    replace Q := Q.ext x20
    replace X := X.ext x20
    replace hr := hr.ext x20
    clear x20
    have hzw := Q.lt
    generalize viewB b s t = vb
    cases vb
    ·
     have cv0 := V.c0
     have cv1 := V.c1
     have cv2 := V.c2
     have f_cv0 := V.f0
     have f_cv1 := V.f1
     have f_cv2 := V.f2
     have z_cv := V.lt
     have cq0 := Q.c0
     have cq1 := Q.c1
     have cq2 := Q.c2
     have f_cq0 := Q.f0
     have f_cq1 := Q.f1
     have f_cq2 := Q.f2
     have z_cq := Q.lt
     have hq1 : w.heap.size ≠ gv := by omega
     have hq2 : gv ≠ w.heap.size := by omega
     go_wp2_with fail
     clear cv0 cv1 cv2 f_cv0 f_cv1 f_cv2
     clear cq0 cq1 cq2 f_cq0 f_cq1 f_cq2
     replace V := V.setBase 0
     replace Q := Q.chgB ((Chg.refl gv (gv + 1) w20).setCell (p := ⟨gv, 0, none⟩) (Nat.le_refl _) (Nat.lt_succ_self _) (.int .i64 0)) (by omega) (fun h => absurd rfl h) (fun h => absurd rfl h)
     replace X := X.set (a := ⟨gv, 0, none⟩) (show w.heap.size ≤ gv by omega) (.int .i64 0)
     replace hr := Rd.set2 (a := ⟨gv, 0, none⟩) (u := .int .i64 0) (show rb < gv by omega) hr
     generalize w20.setCell ⟨gv, 0, none⟩ (.int .i64 0) = w21 at *
     have cq0 := Q.c0
     have cq1 := Q.c1
     have cq2 := Q.c2
     have f_cq0 := Q.f0
     have f_cq1 := Q.f1
     have f_cq2 := Q.f2
     have z_cq := Q.lt
     refine bodyPost_ret (v := .agg #[.int .i64 0, .slice a1 s.length c1, .slice a2 t.length c2]) (by simp only [results, Try.results125]; go_simp) rfl ?_
     clear cq0 cq1 cq2 f_cq0 f_cq1 f_cq2
     replace V := V.chg (Chg.three (lo := w.heap.size) w21 (.int .i64 0) (.slice a1 s.length c1) (.slice a2 t.length c2)) (by omega) (Nat.le_refl _)
     replace X := ((X.set (a := ⟨w.heap.size, 0, none⟩) (show w.heap.size ≤ w.heap.size by omega) (.int .i64 0)).set (a := ⟨w.heap.size, 1, none⟩) (show w.heap.size ≤ w.heap.size by omega) (.slice a1 s.length c1)).set (a := ⟨w.heap.size, 2, none⟩) (show w.heap.size ≤ w.heap.size by omega) (.slice a2 t.length c2)
     replace hr := Rd.set2 (a := ⟨w.heap.size, 2, none⟩) (u := .slice a2 t.length c2) (show rb < w.heap.size by omega) (Rd.set2 (a := ⟨w.heap.size, 1, none⟩) (u := .slice a1 s.length c1) (show rb < w.heap.size by omega) (Rd.set2 (a := ⟨w.heap.size, 0, none⟩) (u := .int .i64 0) (show rb < w.heap.size by omega) hr))
     generalize ((w21.setCell ⟨w.heap.size, 0, none⟩ (.int .i64 0)).setCell ⟨w.heap.size, 1, none⟩ (.slice a1 s.length c1)).setCell ⟨w.heap.size, 2, none⟩ (.slice a2 t.length c2) = w30 at *
     exact ⟨0, s, t, a1, a2, _, c1, _, c2, rfl, V.o1.lower (by omega), V.o2.lower (by omega), V.sep, V.fit, ⟨V.le, hN.out⟩, hr.mono (by omega), X⟩
    ·
     have cv0 := V.c0
     have cv1 := V.c1
     have cv2 := V.c2
     have f_cv0 := V.f0
     have f_cv1 := V.f1
     have f_cv2 := V.f2
     have z_cv := V.lt
     have cq0 := Q.c0
     have cq1 := Q.c1
     have cq2 := Q.c2
     have f_cq0 := Q.f0
     have f_cq1 := Q.f1
     have f_cq2 := Q.f2
     have z_cq := Q.lt
     have hq1 : w.heap.size ≠ gv := by omega
     have hq2 : gv ≠ w.heap.size := by omega
     go_wp2_with fail
     clear cv0 cv1 cv2 f_cv0 f_cv1 f_cv2
     refine bodyPost_ret (v := .agg #[.int .i64 b, .slice a1 s.length c1, .slice a2 t.length c2]) (by simp only [results, Try.results125]; go_simp) rfl ?_
     clear cq0 cq1 cq2 f_cq0 f_cq1 f_cq2
     replace V := V.chg (Chg.three (lo := w.heap.size) w20 (.int .i64 b) (.slice a1 s.length c1) (.slice a2 t.length c2)) (by omega) (Nat.le_refl _)
     replace X := ((X.set (a := ⟨w.heap.size, 0, none⟩) (show w.heap.size ≤ w.heap.size by omega) (.int .i64 b)).set (a := ⟨w.heap.size, 1, none⟩) (show w.heap.size ≤ w.heap.size by omega) (.slice a1 s.length c1)).set (a := ⟨w.heap.size, 2, none⟩) (show w.heap.size ≤ w.heap.size by omega) (.slice a2 t.length c2)
     replace hr := Rd.set2 (a := ⟨w.heap.size, 2, none⟩) (u := .slice a2 t.length c2) (show rb < w.heap.size by omega) (Rd.set2 (a := ⟨w.heap.size, 1, none⟩) (u := .slice a1 s.length c1) (show rb < w.heap.size by omega) (Rd.set2 (a := ⟨w.heap.size, 0, none⟩) (u := .int .i64 b) (show rb < w.heap.size by omega) hr))
     generalize ((w20.setCell ⟨w.heap.size, 0, none⟩ (.int .i64 b)).setCell ⟨w.heap.size, 1, none⟩ (.slice a1 s.length c1)).setCell ⟨w.heap.size, 2, none⟩ (.slice a2 t.length c2) = w30 at *
     exact ⟨b, s, t, a1, a2, _, c1, _, c2, rfl, V.o1.lower (by omega), V.o2.lower (by omega), V.sep, V.fit, ⟨V.le, hN.out⟩, hr.mono (by omega), X⟩


end Go.Proofs.Ytonnnjaooifpjaa

/- Walks: a drawn view that may be no view. -/
namespace Go.Proofs.Ytonnnjaooifpjaa
open Go.RowKit
set_option linter.unusedVariables false
set_option maxRecDepth 100000


theorem OwnZ.chgI {lo hi B : Nat} {w w' : World} {y : Value} {xs : List Int} (h : OwnZ w B y xs) (k : Chg lo hi w w') (hne : xs ≠ [] → ∀ g, y.ownBlock = some g → g < lo ∨ hi ≤ g) : OwnZ w' B y xs := by
 rcases h with ho | ho
 ·
  exact .inl ho
 ·
  by_cases hx : xs = []
  ·
   subst hx
   rcases ho.2 with ⟨h2, _⟩ | ⟨g', cap, cur, rfl, hb, hh, r⟩
   ·
    subst h2; exact .inl ⟨rfl, none, 0, rfl, by simp, fun _ => rfl⟩
   ·
    exact .inl ⟨rfl, some ⟨g', 0, none⟩, cap, rfl, r.2.1, fun h => by cases h⟩
  ·
   obtain ⟨g', cap, e, _⟩ := ho.row hx
   subst e
   exact .inr (ho.chgN k (hne hx g' rfl))
theorem Rch.below' {rb lo hi : Nat} {w a b : World} (h : Chg rb (rb + 1) w a) (k : Chg lo hi a b) (hl : w.heap.size ≤ lo) : Chg rb (rb + 1) w b :=
 ⟨k.os.trans h.os, k.tape.trans h.tape, k.output.trans h.output, Nat.le_trans h.size k.size, fun i hi2 hd => (k.block i (Nat.lt_of_lt_of_le hi2 h.size) (.inl (by omega))).trans (h.block i hi2 hd)⟩
/-- a view that need be none lies in block gv -/
def SAt (rb q gv : Nat) (w wx : World) : Prop := ∃ (b : Int) (s t : List Int) (p1 p2 : Option Addr) (n1 r1 n2 r2 : Nat), wx.cell? ⟨gv, 0, none⟩ = some (.int .i64 b) ∧ wx.cell? ⟨gv, 1, none⟩ = some (.slice p1 n1 r1) ∧ wx.cell? ⟨gv, 2, none⟩ = some (.slice p2 n2 r2) ∧
 OwnZ wx (w.heap.size + 1) (.slice p1 n1 r1) s ∧ OwnZ wx (w.heap.size + 1) (.slice p2 n2 r2) t ∧ (s.length ≤ 4 ∧ t.length ≤ 5) ∧ VAt (w.heap.size + 1) w.heap.size wx 0 (.slice none 0 0) (.slice none 0 0) [] [] ∧ Rd wx rb q ∧ Rch rb w wx
def SView (rb k : Nat) (w : World) (e : Ending) (w' : World) : Prop := ∃ (b : Int) (s t : List Int) (p1 p2 : Option Addr) (n1 r1 n2 r2 : Nat), e = .returned (.agg #[.int .i64 b, .slice p1 n1 r1, .slice p2 n2 r2]) ∧
 Ints w' w.heap.size (.slice p1 n1 r1) s ∧ Ints w' w.heap.size (.slice p2 n2 r2) t ∧ s.length ≤ 4 ∧ t.length ≤ 5 ∧ Rd w' rb k ∧ Chg rb (rb + 1) w w'
theorem SAt.of {rb q gv : Nat} {w wx : World} {b : Int} {p1 p2 : Option Addr} {n1 r1 n2 r2 : Nat} {s t : List Int} (V : VAt (w.heap.size + 1) gv wx b (.slice p1 n1 r1) (.slice p2 n2 r2) s t) (Q : VAt (w.heap.size + 1) w.heap.size wx 0 (.slice none 0 0) (.slice none 0 0) [] []) (hr : Rd wx rb q) (X : Rch rb w wx) : SAt rb q gv w wx :=
 ⟨b, s, t, p1, p2, n1, r1, n2, r2, V.c0, V.c1, V.c2, V.o1, V.o2, ⟨V.le, by have := V.fit; have := V.le; omega⟩, Q, hr, X⟩
theorem SAt.put {rb q gv : Nat} {w w9 : World} {b : Int} {p1 p2 : Option Addr} {n1 r1 n2 r2 : Nat} {v2 : Value} {s t : List Int} (c0 : w9.cell? ⟨gv, 0, none⟩ = some (.int .i64 b)) (c1 : w9.cell? ⟨gv, 1, none⟩ = some (.slice p1 n1 r1)) (c2 : w9.cell? ⟨gv, 2, none⟩ = some v2) (f2 : w9.frozen? ⟨gv, 2, none⟩ = false)
  (o1 : OwnZ w9 (w.heap.size + 1) (.slice p1 n1 r1) s) (o2 : OwnZ w9 (w.heap.size + 1) (.slice p2 n2 r2) t) (m1 : s ≠ [] → ∀ g, (Value.slice p1 n1 r1).ownBlock = some g → g ≠ gv) (m2 : ∀ g, (Value.slice p2 n2 r2).ownBlock = some g → g ≠ gv) (hl : s.length ≤ 4 ∧ t.length ≤ 5)
  (Q : VAt (w.heap.size + 1) w.heap.size w9 0 (.slice none 0 0) (.slice none 0 0) [] []) (hr : Rd w9 rb q) (X : Rch rb w w9) (hg : w.heap.size < gv) (hrb : rb < w.heap.size) : SAt rb q gv w (w9.setCell ⟨gv, 2, none⟩ (.slice p2 n2 r2)) := by
 have k : Chg gv (gv + 1) w9 (w9.setCell ⟨gv, 2, none⟩ (.slice p2 n2 r2)) := (Chg.refl gv (gv + 1) w9).setCell (p := ⟨gv, 2, none⟩) (Nat.le_refl _) (Nat.lt_succ_self _) _
 exact ⟨b, s, t, p1, p2, n1, r1, n2, r2, by go_simp, by go_simp, by go_simp, o1.chgI k (fun h g hg' => by have := m1 h g hg'; omega), o2.chgI k (fun _ g hg' => by have := m2 g hg'; omega), hl,
  Q.chgB k (by omega) (fun h => absurd rfl h) (fun h => absurd rfl h), Rd.set2 (show rb < gv by omega) hr, X.set (show w.heap.size ≤ gv by omega) _⟩

set_option maxHeartbeats 6400000 in
theorem someView_c (rb k : Nat) (w : World) (hr : Rd w rb k) (hk : k ≤ 700000) :
  Calls Try.prog 67 #[.pointer (some ⟨rb, 0, none⟩)] w (SView rb (k + 210) w) := by
 have hlt := hr.lt
 have X := Rch.refl rb w
 go_enter Try.func67, Try.ntmps67
 go_wp2_with fail
 have Q : VAt (w.heap.size + 1) w.heap.size (w.alloc (.cells #[.int .i64 0, .slice none 0 0, .slice none 0 0] 25)) 0 (.slice none 0 0) (.slice none 0 0) [] [] :=
  VAt.new 0 (.inl ⟨rfl, none, 0, rfl, by simp, fun _ => rfl⟩) (.inl ⟨rfl, none, 0, rfl, by simp, fun _ => rfl⟩) (fun h => absurd rfl h) rfl (by simp)
 refine (goodView_c rb k _ (hr.alloc _) (by omega)).mono ?_
 rintro e w1 ⟨b, s, t, p1, p2, n1, r1, n2, r2, rfl, o1, o2, od, hf, ⟨hl, hN⟩, hr1, C1⟩
 have X1 : Rch rb w w1 := Rch.step (by (try change Rch rb w _); repeat (first | (with_reducible exact X) | (with_reducible exact Rch.refl _ _) | (with_reducible apply Rch.drewN) | (with_reducible apply Rch.drew) | (with_reducible apply Rch.alloc) | (with_reducible refine Rch.set ?_ (by first | assumption | (simp <;> omega) | omega) _))) C1
 have hs1 := C1.size
 simp only [World.size_alloc] at hs1 o1 o2
 replace Q := Q.rch C1 (by omega) (by omega)
 clear C1 X hr
 have V : VAt (w.heap.size + 1) w1.heap.size (w1.alloc (.cells #[.int .i64 b, .slice p1 n1 r1, .slice p2 n2 r2] 25)) b (.slice p1 n1 r1) (.slice p2 n2 r2) s t := VAt.new b o1 o2 od hf hl
 have E1 : Ext w1 (w1.alloc (.cells #[.int .i64 b, .slice p1 n1 r1, .slice p2 n2 r2] 25)) := qXt
 replace Q := Q.ext E1
 have X2 := X1.ext E1
 have hr2 := hr1.ext E1
 clear E1 o1 o2 X1 hr1
 replace od := Lib.hid od
 replace hf := Lib.hid hf
 replace hN := Lib.hid hN
 go_wp2_with fail
 generalize w1.alloc (.cells #[.int .i64 b, .slice p1 n1 r1, .slice p2 n2 r2] 25) = w2 at *
 have hgv : w.heap.size < w1.heap.size := by omega
 generalize w1.heap.size = gv at *
 refine (pick1_c 24 rb _ _ hr2 (by omega) (by omega)).mono ?_
 rintro e w3 ⟨x, rfl, hx, hr3, C3⟩
 have X3 := Rch.step X2 C3
 replace V := V.rch C3 (by omega) (by omega)
 replace Q := Q.rch C3 (by omega) (by omega)
 clear C3 X2 hr2
 go_upto_block 0 with fail
 go_cut [] (fun wx => SAt rb (k + 205) gv w wx)
 case first =>
  have hx6 : x = 0 ∨ x = 1 ∨ x = 2 ∨ 3 ≤ x := by omega
  clear hx
  rcases hx6 with rfl | rfl | rfl | hx3
  ·
   have cv0 := V.c0
   have cv1 := V.c1
   have cv2 := V.c2
   have f_cv0 := V.f0
   have f_cv1 := V.f1
   have f_cv2 := V.f2
   have z_cv := V.lt
   go_wp2_with fail
   refine (oneLit_c _ _ _ rb _ _ hr3 (by omega) (by rfl) (by rfl) (by constructor <;> simp) (by first | rfl | simp)).mono ?_
   rintro e w5 ⟨x5, rfl, -, hr5, C5⟩
   clear cv0 cv1 cv2 f_cv0 f_cv1 f_cv2
   have X5 := Rch.step (Rch.alloc X3 _) C5
   replace V := (V.ext ((Ext.refl w3).alloc _)).rch C5 (by omega) (by omega)
   replace Q := (Q.ext ((Ext.refl w3).alloc _)).rch C5 (by omega) (by omega)
   clear C5 X3 hr3
   have cv0 := V.c0
   have cv1 := V.c1
   have cv2 := V.c2
   have f_cv0 := V.f0
   have f_cv1 := V.f1
   have f_cv2 := V.f2
   have z_cv := V.lt
   go_wp2_with fail
   clear cv0 cv1 cv2 f_cv0 f_cv1 f_cv2
   replace Q := Q.chgB ((Chg.refl gv (gv + 1) w5).setCell (p := ⟨gv, 0, none⟩) (Nat.le_refl _) (Nat.lt_succ_self _) (.int .i64 x5)) (by omega) (fun h => absurd rfl h) (fun h => absurd rfl h)
   replace V := V.setBase x5
   replace hr5 := Rd.set2 (a := ⟨gv, 0, none⟩) (u := .int .i64 x5) (show rb < gv by omega) hr5
   replace X5 := X5.set (a := ⟨gv, 0, none⟩) (show w.heap.size ≤ gv by omega) (.int .i64 x5)
   generalize w5.setCell ⟨gv, 0, none⟩ (.int .i64 x5) = w6 at *
   go_meet
   case rel => exact SAt.of V Q (hr5.mono (by omega)) X5
  ·
   by_cases ht : t = []
   ·
    have hse : s = [] := List.eq_nil_of_length_eq_zero (by have := hf.out; rw [ht] at this; simpa using this.symm)
    obtain ⟨hn2, hr2'⟩ := hN.out hse
    subst hn2
    subst hr2'
    have hm2 : Hid (s ≠ [] → ∀ g, (Value.slice p1 n1 r1).ownBlock = some g → g ≠ gv) := Lib.hid (fun h g hg h2 => V.n1 h (by rw [hg, h2]))
    have o1 := V.o1
    have hv := V.lt
    have zw := X3.size
    clear hse
    replace ht := Lib.hid ht
    have cv0 := V.c0
    have cv1 := V.c1
    have cv2 := V.c2
    have f_cv0 := V.f0
    have f_cv1 := V.f1
    have f_cv2 := V.f2
    have z_cv := V.lt
    clear V
    have main : ∀ (v9 : Value) (w9 : World) (B9 : Nat), w3.heap.size ≤ B9 → OwnZ w9 B9 v9 [1] → Ext w3 w9 → ∃ g9 n9 c9, v9 = .slice (some ⟨g9, 0, none⟩) n9 c9 ∧ w9.cell? ⟨gv, 0, none⟩ = some (.int .i64 b) ∧ w9.cell? ⟨gv, 1, none⟩ = some (.slice p1 n1 r1) ∧ w9.cell? ⟨gv, 2, none⟩ = some (.slice p2 0 0) ∧ w9.frozen? ⟨gv, 2, none⟩ = false ∧ SAt rb (k + 205) gv w (w9.setCell ⟨gv, 2, none⟩ (.slice (some ⟨g9, 0, none⟩) n9 c9)) := by
     intro v9 w9 B9 hB ho E9
     obtain ⟨g9, n9, c9, rfl, hn9, G9, G9'⟩ := (ho.ofNe (by simp)).row2 (by simp)
     refine ⟨g9, n9, c9, rfl, E9.cell cv0, E9.cell cv1, E9.cell cv2, E9.frz hv f_cv2, ?_⟩
     exact SAt.put (E9.cell cv0) (E9.cell cv1) (E9.cell cv2) (E9.frz hv f_cv2) (o1.ext E9) (ho.lower (by omega)) hm2.out (fun g hg => by have h7 : some g9 = some g := hg; cases h7; omega) ⟨hl, by simp⟩ (Q.ext E9) ((hr3.ext E9).mono (by omega)) (X3.ext E9) hgv hlt
    replace main := Lib.hid main
    clear o1 Q hr3 X3
    cases p2 with
    | none =>
     go_wp2_with (
      at_builtin
      refine wpList_app rfl (.tmp 17) (.tmp 18) rfl rfl rfl (OwnI.nil _ w3.heap.size) (Ints.one _ 0 _ (Nat.zero_le _)) (by simp <;> omega) (by simp <;> omega) ?_
      intro v9 w9 ho hgr hbl hvb
      obtain ⟨g9, n9, c9, rfl, e0, e1, e2, e3, hS⟩ := main.out v9 w9 _ (Nat.le_refl _) ho.z (Ext.below (show Ext w3 _ from qXt) hbl (Nat.le_refl _))
      clear ho hgr hbl hvb cv0 cv1 cv2 f_cv0 f_cv1 f_cv2
      replace hS := Lib.hid hS)
     go_meet
     case rel => exact hS.out
    | some ad =>
     go_wp2_with (
      at_builtin
      refine wpList_app0 rfl (.tmp 17) (.tmp 18) ad rfl rfl rfl (Ints.one _ 0 _ (Nat.zero_le _)) ?_
      intro v9 w9 ho x9 hvb
      obtain ⟨g9, n9, c9, rfl, e0, e1, e2, e3, hS⟩ := main.out v9 w9 _ (by simp) ho (Ext.trans (show Ext w3 _ from qXt) x9)
      clear ho x9 hvb cv0 cv1 cv2 f_cv0 f_cv1 f_cv2
      replace hS := Lib.hid hS)
     go_meet
     case rel => exact hS.out
   ·
    obtain ⟨g2, c2, e2, G2, G2'⟩ := (V.o2.ofNe ht).row ht
    obtain ⟨rfl, rfl, rfl⟩ : p2 = some ⟨g2, 0, none⟩ ∧ n2 = t.length ∧ r2 = c2 := by simp at e2; exact e2
    have O2 := V.o2.ofNe ht
    have hgne : g2 ≠ gv := fun h => V.n2 ht (by rw [h]; rfl)
    have hlt5 : t.length ≤ 4 := by have := hf.out; omega
    replace e2 := Lib.hid e2
    have cv0 := V.c0
    have cv1 := V.c1
    have cv2 := V.c2
    have f_cv0 := V.f0
    have f_cv1 := V.f1
    have f_cv2 := V.f2
    have z_cv := V.lt
    have hm1 : Hid (s ≠ [] → ∀ g, (Value.slice p1 n1 r1).ownBlock = some g → g < g2 ∨ g2 + 1 ≤ g) := by
     refine Lib.hid (fun h g hg => ?_)
     have : g ≠ g2 := fun h2 => V.sep h ht (by rw [hg, h2]; rfl)
     omega
    have hm2 : Hid (s ≠ [] → ∀ g, (Value.slice p1 n1 r1).ownBlock = some g → g ≠ gv) := Lib.hid (fun h g hg h2 => V.n1 h (by rw [hg, h2]))
    have o1 := V.o1
    have hq := Q.lt
    have hv := V.lt
    replace ht := Lib.hid ht
    clear V
    go_wp2_with (
     at_builtin
     refine wpList_app rfl (.tmp 17) (.tmp 18) rfl rfl rfl (O2.ext ((Ext.refl _).alloc _)) (Ints.one _ 0 _ (Nat.zero_le _)) (by simp <;> omega) (by simp <;> omega) ?_
     intro v9 w9 ho hgr hbl hvb
     obtain ⟨g9, n9, c9, rfl, hn9, G9, G9'⟩ := ho.row2 (by simp)
     have B9 := own_or hvb
     simp only [World.size_alloc] at B9
     have K9 : Chg g2 (g2 + 1) w3 w9 := chg_grown hgr
     have cv0 := K9.cell (by omega) cv0
     have cv1 := K9.cell (by omega) cv1
     have cv2 := K9.cell (by omega) cv2
     have f_cv2 := K9.frzO (by omega) hv f_cv2
     replace o1 := o1.chgI K9 hm1.out
     replace Q := Q.chgB K9 (by omega) (fun h => absurd rfl h) (fun h => absurd rfl h)
     replace hr3 := hr3.chgO K9 (by omega)
     have X9 : Rch rb w w9 := Rch.below' X3 K9 (by omega)
     clear hgr hbl hvb K9 X3)
    go_meet
    case rel => exact SAt.put cv0 cv1 cv2 f_cv2 o1 ho.z hm2.out (fun g hg => by have : some g9 = some g := hg; cases this; omega) ⟨hl, by simp; omega⟩ Q (hr3.mono (by omega)) X9 hgv hlt
  ·
   by_cases ht : t = []
   ·
    have hse : s = [] := List.eq_nil_of_length_eq_zero (by have := hf.out; rw [ht] at this; simpa using this.symm)
    obtain ⟨hn2, hr2'⟩ := hN.out hse
    subst hn2
    subst hr2'
    clear hse
    replace ht := Lib.hid ht
    have cv0 := V.c0
    have cv1 := V.c1
    have cv2 := V.c2
    have f_cv0 := V.f0
    have f_cv1 := V.f1
    have f_cv2 := V.f2
    have z_cv := V.lt
    go_wp2_with fail
    go_meet
    case rel => exact SAt.of V Q (hr3.mono (by omega)) X3
   ·
    obtain ⟨g2, c2, e2, G2, G2'⟩ := (V.o2.ofNe ht).row ht
    obtain ⟨rfl, rfl, rfl⟩ : p2 = some ⟨g2, 0, none⟩ ∧ n2 = t.length ∧ r2 = c2 := by simp at e2; exact e2
    have hgne : g2 ≠ gv := fun h => V.n2 ht (by rw [h]; rfl)
    have hlt0 : 0 < t.length := by cases t; exact absurd rfl ht; simp
    have hltI : (0 : Int) < (t.length : Int) := by omega
    replace e2 := Lib.hid e2
    have htH := Lib.hid ht
    clear ht
    have cv0 := V.c0
    have cv1 := V.c1
    have cv2 := V.c2
    have f_cv0 := V.f0
    have f_cv1 := V.f1
    have f_cv2 := V.f2
    have z_cv := V.lt
    go_wp2_with fail
    clear cv0 cv1 f_cv0 f_cv1 f_cv2
    refine wp_region_tail (S := fun w' => w'.cell? ⟨gv, 2, none⟩ = some (.slice (some ⟨g2, 0, none⟩) t.length r2)) (fun i => decide (6 ≤ i)) qKr cv2 (fun hHeld => ?_)
    refine qTk (v := ?_) 0 rfl (.inl ⟨by rfl, ?_⟩) ?_
    rotate_left
    ·
     (intro w hSw; (try dsimp only at hSw); go_simp; try with_reducible rfl)
    try simp only [Act.put, qa, qb, qc, qD, qE, qF]
    refine qTk (v := ?_) 1 rfl (.inl ⟨by rfl, ?_⟩) ?_
    rotate_left
    ·
     (intro w hSw; (try dsimp only at hSw); go_simp; try with_reducible rfl)
    try simp only [Act.put, qa, qb, qc, qD, qE, qF]
    refine qTk (v := ?_) 2 rfl (.inl ⟨by rfl, ?_⟩) ?_
    rotate_left
    ·
     (intro w hSw; (try dsimp only at hSw); go_simp; try with_reducible rfl)
    try simp only [Act.put, qa, qb, qc, qD, qE, qF]
    refine wpTail_one (i := 3) qKr rfl rfl (fun K hK => ?_)
    try simp only [Act.put, qa, qb, qc, qD, qE, qF]
    go_simp
    have EE : Ext w3 (w3.drew.alloc (.cells #[.int .i64 61, .int .i64 (-61), .int .i64 60] 3)) := qXt
    refine hK.out _ _ (EE.cell cv2) (fun hHeld => ?_)
    clear hK K
    try simp only [Act.put, qa, qb, qc, qD, qE, qF]
    refine wpTail_one (i := 4) qKr rfl rfl (fun K hK => ?_)
    try simp only [Act.put, qa, qb, qc, qD, qE, qF]
    go_simp
    refine (oneLit_c _ _ _ rb _ _ hr3.drew (by omega) (by rfl) (by rfl) (by constructor <;> simp) (by first | rfl | simp)).mono ?_
    rintro e w14 ⟨y, rfl, -, hr14, C14⟩
    have X14 := Rch.step (X3.ext EE) C14
    replace V := (V.ext EE).rch C14 (by omega) (by omega)
    replace Q := (Q.ext EE).rch C14 (by omega) (by omega)
    clear C14 EE hr3 X3
    replace cv2 := V.c2
    refine hK.out _ _ cv2 (fun hHeld => ?_)
    clear hK K
    try simp only [Act.put, qa, qb, qc, qD, qE, qF]
    refine qTk (v := ?_) 5 rfl (.inl ⟨by rfl, ?_⟩) ?_
    rotate_left
    ·
     (intro w hSw; (try dsimp only at hSw); go_simp; try with_reducible rfl)
    try simp only [Act.put, qa, qb, qc, qD, qE, qF]
    obtain ⟨A1, A2⟩ := (V.o2.ofNe htH.out).cell 0 hlt0
    refine wpTail_last (i := 6) qKr rfl rfl (fun K hK => ?_)
    try simp only [Act.put, qa, qb, qc, qD, qE, qF]
    go_simp
    refine hK.out _ _ ?_
    clear hK K
    try simp only [Act.put, qa, qb, qc, qD, qE, qF]
    refine wpTail_done qKr ?_ _
    clear hHeld A1 A2 cv2
    replace Q := Q.chgB ((Chg.refl g2 (g2 + 1) w14).setCell (p := ⟨g2, 0, none⟩) (Nat.le_refl _) (Nat.lt_succ_self _) (.int .i64 y)) (by omega) (fun h => absurd rfl h) (fun h => absurd rfl h)
    replace V := V.setT hlt0 y
    replace X14 := X14.set (a := ⟨g2, 0, none⟩) (show w.heap.size ≤ g2 by omega) (.int .i64 y)
    replace hr14 := Rd.set2 (a := ⟨g2, 0, none⟩) (u := .int .i64 y) (show rb < g2 by omega) hr14
    generalize w14.setCell ⟨g2, 0, none⟩ (.int .i64 y) = w15 at *
    repeat go_step
    go_meet
    case rel => exact SAt.of V Q (hr14.mono (by omega)) X14
  ·
   go_wp2_with fail
   go_meet
   case rel => exact SAt.of V Q (hr3.mono (by omega)) X3
 case rest =>
  obtain ⟨b, s, t, p1, p2, n1, r1, n2, r2, c0, c1, c2, o1, o2, ⟨l1, l2⟩, Q, hr, X⟩ := hcut
  have zv : gv < wc.heap.size := qB c0
  have cq0 := Q.c0
  have cq1 := Q.c1
  have cq2 := Q.c2
  have f_cq0 := Q.f0
  have f_cq1 := Q.f1
  have f_cq2 := Q.f2
  have z_cq := Q.lt
  go_wp2_with fail
  refine bodyPost_ret (v := .agg #[.int .i64 b, .slice p1 n1 r1, .slice p2 n2 r2]) (by simp only [results, Try.results67]; go_simp) rfl ?_
  have K := Chg.three (lo := w.heap.size) wc (.int .i64 b) (.slice p1 n1 r1) (.slice p2 n2 r2)
  replace o1 := o1.chg K (Nat.le_refl _)
  replace o2 := o2.chg K (Nat.le_refl _)
  replace X := ((X.set (a := ⟨w.heap.size, 0, none⟩) (show w.heap.size ≤ w.heap.size by omega) (.int .i64 b)).set (a := ⟨w.heap.size, 1, none⟩) (show w.heap.size ≤ w.heap.size by omega) (.slice p1 n1 r1)).set (a := ⟨w.heap.size, 2, none⟩) (show w.heap.size ≤ w.heap.size by omega) (.slice p2 n2 r2)
  replace hr := Rd.set2 (a := ⟨w.heap.size, 2, none⟩) (u := .slice p2 n2 r2) (show rb < w.heap.size by omega) (Rd.set2 (a := ⟨w.heap.size, 1, none⟩) (u := .slice p1 n1 r1) (show rb < w.heap.size by omega) (Rd.set2 (a := ⟨w.heap.size, 0, none⟩) (u := .int .i64 b) (show rb < w.heap.size by omega) hr))
  clear K
  generalize ((wc.setCell ⟨w.heap.size, 0, none⟩ (.int .i64 b)).setCell ⟨w.heap.size, 1, none⟩ (.slice p1 n1 r1)).setCell ⟨w.heap.size, 2, none⟩ (.slice p2 n2 r2) = w30 at *
  exact ⟨b, s, t, p1, p2, n1, r1, n2, r2, rfl, (o1.ints (by omega)).lower (by omega), (o2.ints (by omega)).lower (by omega), l1, l2, hr.mono (by omega), X⟩

end Go.Proofs.Ytonnnjaooifpjaa

/- What the arguments of a law read as, when they are opened: ints, lists of ints, views. -/
namespace Go.Proofs.Ytonnnjaooifpjaa
open Go.ChangeShapes Go.WideShapes Go.ChangeAt Go.RowKit Go.Joins
set_option linter.unusedVariables false
set_option maxRecDepth 100000

theorem own : ownKnob Try.prog.godebug = none := by kernel_rfl
theorem laidOut : laidOutB Try.prog = true := by kernel_rfl
theorem cellsInt : Try.prog.cellsOf 3 = 1 := by kernel_rfl

/-- a slice of ints that came in -/
def RawIn (w : World) (v : Value) (xs : List Int) : Prop := Raw w v xs ∧ xs.length ≤ maxLen

section
variable {H : Type} {enc : TypeId × Value → H} {w : World} {base : Nat} {spare : Nat → Bool} {held : Bool} {fuel : Nat}

theorem open_rawInts {v : Value} {x : DataW H × List MemPlace} (hf : DataW.trod enc Try.prog w base spare held fuel 23 [v] = some x) : ∃ xs, RawIn w v xs := by
  rcases open_ints Try.underlying23 Try.underlying3 cellsInt hf with ⟨hcs, _⟩ | ⟨a, l, c, zs, hcs, _, hl, hm, hz, _, hcell, hwz⟩
  · simp at hcs; subst hcs
    exact ⟨[], ⟨none, 0, rfl, fun _ => rfl, fun i hi => absurd hi (by simp)⟩, by simp⟩
  · simp at hcs; subst hcs
    have hlen : (zs.take l).length = l := by rw [List.length_take, hz]; split <;> omega
    refine ⟨zs.take l, ⟨some a, c, by rw [hlen], (fun h => by cases h), fun i hi => ?_⟩, by rw [hlen]; omega⟩
    have hi' : i < zs.length := by rw [List.length_take] at hi; omega
    have hc := hcell i hi'
    obtain ⟨b, off, spot⟩ := a
    have h0 := hcell 0 (by omega)
    have hspot : spot = none := by simpa [Addr.add] using World.cell?_spot h0
    subst hspot
    refine ⟨b, off, rfl, ?_⟩
    have e : (⟨b, off, none⟩ : Addr).add i = ⟨b, off + i, none⟩ := by unfold Addr.add; split <;> simp_all
    rw [e] at hc
    rw [hc]
    have hil : i < l := by rw [hlen] at hi; exact hi
    simp [hil]

theorem open_rawInt {v : Value} {x : DataW H × List MemPlace} (hf : DataW.trod enc Try.prog w base spare held fuel 3 [v] = some x) : ∃ n, v = .int .i64 n ∧ (Lit.int .i64 n).wf = true := by
  obtain ⟨n, hcs, _, hw⟩ := DataW.trod_int Try.underlying3 hf
  simp at hcs; exact ⟨n, hcs, hw⟩

/-- a view that came in -/
def ViewIn (w : World) (v : Value) (b : Int) (shape strides : List Int) : Prop := ∃ a cap a2 cap2, v = .agg #[.int .i64 b, .slice a shape.length cap, .slice a2 strides.length cap2] ∧ RawIn w (.slice a shape.length cap) shape ∧ RawIn w (.slice a2 strides.length cap2) strides

theorem RawIn.form {v : Value} {xs : List Int} (h : RawIn w v xs) : ∃ a cap, v = .slice a xs.length cap := by
  obtain ⟨⟨a, cap, hv, _⟩, _⟩ := h; exact ⟨a, cap, hv⟩

end

end Go.Proofs.Ytonnnjaooifpjaa

/- What the argument of a law on drawn data reads as, when it is opened: a slice of bytes. -/
namespace Go.Proofs.Ytonnnjaooifpjaa
open Go.ChangeShapes Go.WideShapes Go.ChangeAt Go.RowKit Go.Joins
set_option linter.unusedVariables false

theorem bys_of_cells {W : World} {x : Addr} {n cap : Nat} {zs : List Int} (hl : n ≤ cap) (hm : cap ≤ maxLen) (hz : zs.length = cap) (hcell : ∀ i, i < zs.length → W.cell? (x.add i) = some (.int .u8 (zs.getD i 0))) (hwz : ∀ m ∈ zs, (Lit.int .u8 m).wf = true) : BysIn W (some x) n cap := by
  refine ⟨hl, hm, fun i hi => ?_⟩
  obtain ⟨b, off, spot⟩ := x
  have h0 := hcell 0 (by omega)
  have hspot : spot = none := by simpa [Addr.add] using World.cell?_spot h0
  subst hspot
  have hc := hcell i (by omega)
  have e : (⟨b, off, none⟩ : Addr).add i = ⟨b, off + i, none⟩ := by unfold Addr.add; split <;> simp_all
  rw [e] at hc
  have hw := hwz (zs.getD i 0) (by simp [show i < zs.length by omega])
  refine ⟨b, off, _, rfl, hc, ?_⟩
  have := bounds_u8 hw
  omega

end Go.Proofs.Ytonnnjaooifpjaa

/- Walks: drawn arguments: a view; a view and a size. -/
namespace Go.Proofs.Ytonnnjaooifpjaa
open Go.RowKit
set_option linter.unusedVariables false
set_option maxRecDepth 100000


def DView (w w' : World) (b : Int) (s t : List Int) (p1 p2 : Option Addr) (n1 r1 n2 r2 : Nat) : Prop := Ints w' w.heap.size (.slice p1 n1 r1) s ∧ Ints w' w.heap.size (.slice p2 n2 r2) t ∧ s.length ≤ 4 ∧ t.length ≤ 5 ∧ Ext w w'
def PDraw (w : World) (e : Ending) (w' : World) : Prop := ∃ (b : Int) (s t : List Int) (p1 p2 : Option Addr) (n1 r1 n2 r2 : Nat), e = .returned (.agg #[.int .i64 b, .slice p1 n1 r1, .slice p2 n2 r2]) ∧ DView w w' b s t p1 p2 n1 r1 n2 r2
def PDrawI (lo hi : Int) (w : World) (e : Ending) (w' : World) : Prop := ∃ (b : Int) (s t : List Int) (p1 p2 : Option Addr) (n1 r1 n2 r2 : Nat) (x : Int), e = .returned (.tuple #[.agg #[.int .i64 b, .slice p1 n1 r1, .slice p2 n2 r2], .int .i64 x]) ∧ (lo ≤ x ∧ x ≤ hi) ∧ DView w w' b s t p1 p2 n1 r1 n2 r2
end Go.Proofs.Ytonnnjaooifpjaa

/- What the joined form asks of the PROGRAM, whatever the function: each its own theorem. The head's long line of names is cut behind its third word first: read whole it outgrows the kernel's memory. -/
namespace Go.Proofs.Ytonnnjaooifpjaa.facts

theorem words_ne : ∀ l : List Char, wordsSigns l ≠ []
  | [] => by simp [wordsSigns]
  | c :: r => by
    unfold wordsSigns
    split
    · simp
    · simp
    · split <;> simp

theorem words_app (b : List Char) : ∀ a : List Char, wordsSigns (a ++ Char.ofNat 32 :: b) = wordsSigns a ++ wordsSigns b
  | [] => by rw [List.nil_append]; rfl
  | c :: r => by
    have ih := words_app b r
    by_cases h : c = Char.ofNat 32
    · subst h
      have e : ∀ l : List Char, wordsSigns (Char.ofNat 32 :: l) = [] :: wordsSigns l := fun l => rfl
      rw [List.cons_append, e, e, ih]; rfl
    · have e : ∀ l : List Char, wordsSigns (c :: l) = match wordsSigns l with | w :: ws => (c :: w) :: ws | [] => [[c]] := by
        intro l
        conv => lhs; unfold wordsSigns
        split
        · rename_i h1; cases h1
        · rename_i h1; cases h1; exact absurd rfl h
        · rename_i h1; cases h1; rfl
      rw [List.cons_append, e, e, ih]
      cases hr : wordsSigns r with
      | nil => exact absurd hr (words_ne r)
      | cons w ws => simp

theorem cut_at {l : List Char} (h : (l.drop 76).head? = some (Char.ofNat 32)) : l = l.take 76 ++ Char.ofNat 32 :: l.drop 77 := by
  have e := List.take_append_drop 76 l
  cases hd : l.drop 76 with
  | nil => rw [hd] at h; cases h
  | cons c r =>
    rw [hd] at h
    have hc : c = Char.ofNat 32 := Option.some.inj h
    have : l.drop 77 = r := by
      have := congrArg (List.drop 1) hd
      simpa [List.drop_drop] using this
    rw [this, ← hc, ← hd]; exact e.symm

set_option maxRecDepth 100000 in
theorem order : ∃ l, Try.checked.prog.initOrder = String.ofList l ∧ (l.drop 76).head? = some (Char.ofNat 32) ∧ ∀ W, behindMainWord (wordsSigns (l.take 76) ++ W) = "cut".toList :: W := by
  unfold Try.checked Try.prog
  refine ⟨_, rfl, ?_, ?_⟩
  · kernel_rfl
  · intro W; kernel_rfl

theorem behind_all : ∃ W, behindMainWord (wordsSigns Try.checked.prog.initOrder.toList) = "cut".toList :: W := by
  obtain ⟨l, e, h1, h2⟩ := order
  refine ⟨wordsSigns (l.drop 77), ?_⟩
  rw [e, String.toList_ofList, cut_at h1, words_app, ← cut_at h1]
  exact h2 _

theorem strip (W : List (List Char)) : stripLifts liftWords ("cut".toList :: W) = ([], "cut".toList :: W) := by kernel_rfl

theorem lifts : Try.checked.prog.headLifts = [] := by
  unfold Program.headLifts
  obtain ⟨W, e⟩ := behind_all
  rw [e, strip]
  kernel_rfl

theorem laysLater : Try.checked.prog.laysLater = false := by kernel_rfl
theorem bearsReflect : Try.checked.prog.bearsReflect = false := by kernel_rfl
theorem doorFits : Try.checked.prog.doorFits [] = true := by kernel_rfl

theorem mayEnter_of {P : Program} {W : List (List Char)} (e : behindMainWord (wordsSigns P.initOrder.toList) = "cut".toList :: W) (h1 : P.laysLater = false) (h2 : P.bearsReflect = false) (h3 : P.doorFits [] = true) : P.mayEnter = true := by
  unfold Program.mayEnter
  rw [e]
  simp only [strip, h1, h2, h3]
  kernel_rfl

theorem mayEnter : Try.checked.prog.mayEnter = true := by
  obtain ⟨W, e⟩ := behind_all
  exact mayEnter_of e laysLater bearsReflect doorFits

theorem liftsFinal_of {P : Program} {W : List (List Char)} (e : behindMainWord (wordsSigns P.initOrder.toList) = "cut".toList :: W) (h : P.headLifts = []) : P.liftsFinal = false := by
  unfold Program.liftsFinal
  rw [e, h]
  kernel_rfl

theorem liftsFinal : Try.checked.prog.liftsFinal = false := by
  obtain ⟨W, e⟩ := behind_all
  exact liftsFinal_of e lifts

theorem make_of {P : Program} {W : List (List Char)} (e : behindMainWord (wordsSigns P.initOrder.toList) = "cut".toList :: W) : P.make = some .cut := by
  unfold Program.make
  rw [e]
  kernel_rfl

theorem make : Try.checked.prog.make = some .cut := by
  obtain ⟨W, e⟩ := behind_all
  exact make_of e

theorem laid : laidOutB Try.checked.prog = true := by kernel_rfl
theorem mapped : mapsRowed Try.checked.prog = true := by kernel_rfl
theorem stops : Try.checked.prog.stops = [] := by kernel_rfl
theorem stopKnobs : Try.checked.prog.stopKnobs = [] := by kernel_rfl
theorem stopsHeard : Try.checked.prog.stopsHeard = true := by kernel_rfl
theorem plainKeys : Try.checked.prog.plainKeys = true := by kernel_rfl

set_option maxRecDepth 100000 in
theorem all {f : FuncId} {fn : Func} {s : ChangeSpec} {c : OpenClaim}
    (h1 : c.wf (OpenSpec.ofChange s) = true) (h2 : fn.params.all (Try.checked.prog.readableRec ·) = true) (h3 : namedTie Try.checked.prog c.named s.vars = true)
    (h4 : (c.stops == []) = true) (h5 : (c.knobs == []) = true)
    (h6 : (c.inPlace == Try.checked.prog.inPlace f) = true) (h7 : (c.unfollowed == Try.checked.prog.unfollowed f) = true) (h8 : (c.recurses == Try.checked.prog.recurses f) = true) (h9 : (c.named == Try.checked.prog.varsNamed f) = true)
    (h10 : (c.maps == (fn.params.toList ++ s.plain.varTypes Try.checked.prog).any (Try.checked.prog.mapsRec ·) && (c.ifaces == (fn.params.toList ++ s.plain.varTypes Try.checked.prog).any (Try.checked.prog.ifacesRec ·)) && (c.mapsOut == Try.checked.prog.mapsAmong fn.resultTypes.toList) &&
      (c.loops == (fn.params.toList ++ s.plain.varTypes Try.checked.prog).any (Try.checked.prog.loopsFrom ·)) && (c.wideKeys == (fn.params.toList ++ s.plain.varTypes Try.checked.prog ++ fn.resultTypes.toList).any (Try.checked.prog.wideKeysFrom ·))) = true)
    (h11 : (s.vars.all (Try.checked.prog.varReadable ·) && fn.resultTypes.all (fun t => Try.checked.prog.readableRec t && decide (t < Try.checked.prog.types.size)) && (c.ifacesOut == fn.resultTypes.toList.any (Try.checked.prog.ifacesRec ·)) && (c.loopsOut == fn.resultTypes.toList.any (Try.checked.prog.loopsFrom ·))) = true)
    (h12 : c.plainKeys = true) (h13 : c.shortTexts.isNone = true) (h14 : c.lifted = false) (h15 : c.make = .cut)
    (h16 : (c.kinds == (if c.domain.isEmpty then [] else fn.params.toList.map fun t => match Try.checked.prog.underlying t with | some (.int k) => some k | _ => none)) = true) (h17 : (c.pinned == c.pinnedBy) = true)
    (h18 : (c.veiled == (fn.params.toList ++ s.plain.varTypes Try.checked.prog ++ fn.resultTypes.toList).any (Try.checked.prog.veiledRec ·)) = true)
    (h19 : c.veiledFits Try.checked.prog fn.params.toList (fn.params.toList ++ s.plain.varTypes Try.checked.prog ++ fn.resultTypes.toList) = true) :
    joinedFacts Try.checked.prog f fn s c = true := by
  unfold joinedFacts
  simp only [Bool.and_eq_true] at h10 h11 ⊢
  obtain ⟨⟨⟨⟨a1, a2⟩, a3⟩, a4⟩, a5⟩ := h10
  obtain ⟨⟨⟨b1, b2⟩, b3⟩, b4⟩ := h11
  refine ⟨⟨⟨⟨⟨⟨⟨⟨⟨⟨⟨⟨⟨⟨⟨⟨⟨⟨⟨⟨⟨⟨⟨⟨⟨⟨⟨⟨⟨⟨⟨h1, laid⟩, mapped⟩, h2⟩, h3⟩, h4⟩, ?_⟩, h5⟩, ?_⟩, h6⟩, h7⟩, h8⟩, h9⟩, a1⟩, a2⟩, a3⟩, a4⟩, a5⟩, b1⟩, b2⟩, b3⟩, b4⟩, ?_⟩, h13⟩, stopsHeard⟩, mayEnter⟩, ?_⟩, ?_⟩, h16⟩, h17⟩, h18⟩, h19⟩
  · rw [stops]; rfl
  · rw [stopKnobs]; rfl
  · rw [plainKeys, h12]; rfl
  · rw [liftsFinal, h14]; rfl
  · rw [make, h15]; exact beq_self_eq_true _

end Go.Proofs.Ytonnnjaooifpjaa.facts

/- Plain laws on memories: what is stored last stays, what is added, sums. -/
namespace Go.Proofs.Ytonnnjaooifpjaa
open Go.RowKit
set_option linter.unusedVariables false
set_option maxRecDepth 100000

theorem getD_set (m : List Int) (a : Nat) (x : Int) (b : Nat) : (m.set a x).getD b 0 = if a = b ∧ b < m.length then x else m.getD b 0 := by
  simp only [List.getD_eq_getElem?_getD, List.getElem?_set]
  by_cases h : a = b
  · subst h
    by_cases h2 : a < m.length
    · rw [if_pos rfl, if_pos h2, if_pos ⟨rfl, h2⟩]; rfl
    · rw [if_pos rfl, if_neg h2, if_neg (fun h => h2 h.2), List.getElem?_eq_none (by omega)]
  · rw [if_neg h, if_neg (fun h' => h h'.1)]

/-- the last value of a cell stays -/
theorem put_last (mem ix vs : List Int) (hix : ∀ x ∈ ix, 0 ≤ x ∧ x < mem.length) (i : Nat) (hi : i < ix.length) (hno : (ix.drop (i+1)).contains (ix.getD i 0) = false) :
    (putL mem ix vs).getD (ix.getD i 0).toNat 0 = vs.getD i 0 := by
  have key : ∀ k, i < k → k ≤ ix.length → (putUp mem ix vs k).getD (ix.getD i 0).toNat 0 = vs.getD i 0 := by
    intro k
    induction k with
    | zero => intro h; omega
    | succ k ih =>
      intro h1 h2
      rw [putUp_succ, getD_set, putUp_len]
      have hxi := hix (ix.getD i 0) (by have : ix.getD i 0 = ix[i] := by simp [hi]
                                        rw [this]; exact List.getElem_mem hi)
      by_cases hk : k = i
      · subst hk; rw [if_pos ⟨rfl, by omega⟩]
      · have hxk := hix (ix.getD k 0) (by have : ix.getD k 0 = ix[k] := by simp [show k < ix.length by omega]
                                          rw [this]; exact List.getElem_mem _)
        rw [if_neg, ih (by omega) (by omega)]
        rintro ⟨h3, _⟩
        have h4 : ix.getD k 0 = ix.getD i 0 := by omega
        have : (ix.drop (i+1)).contains (ix.getD i 0) = true := by
          rw [List.contains_iff_mem, ← h4, List.mem_iff_getElem]
          exact ⟨k - (i+1), by simp; omega, by simp [show i + 1 + (k - (i + 1)) = k by omega, show k < ix.length by omega]⟩
        rw [this] at hno; cases hno
  exact key ix.length hi (Nat.le_refl _)

/-- additions one by one -/
def addUp (mem ix vs : List Int) (k : Nat) : List Int := (List.range k).foldl (fun m i => m.set (ix.getD i 0).toNat ((m.getD (ix.getD i 0).toNat 0 + vs.getD i 0) % 256)) mem
theorem addUp_succ (mem ix vs : List Int) (k : Nat) : addUp mem ix vs (k+1) = (addUp mem ix vs k).set (ix.getD k 0).toNat (((addUp mem ix vs k).getD (ix.getD k 0).toNat 0 + vs.getD k 0) % 256) := by
  unfold addUp; rw [List.range_succ, List.foldl_append]; rfl
theorem addUp_len (mem ix vs : List Int) (k : Nat) : (addUp mem ix vs k).length = mem.length := by
  induction k with
  | zero => rfl
  | succ k ih => rw [addUp_succ, List.length_set, ih]
def addL (mem ix vs : List Int) : List Int := addUp mem ix vs ix.length
/-- what is added to a cell by the first k -/
def sumAt (ix vs : List Int) (x : Int) : Nat → Int
  | 0 => 0
  | k+1 => sumAt ix vs x k + if ix.getD k 0 = x then vs.getD k 0 else 0
theorem addUp_get (mem ix vs : List Int) (hm : ∀ y ∈ mem, 0 ≤ y ∧ y ≤ 255) (hix : ∀ x ∈ ix, 0 ≤ x ∧ x < mem.length) (x : Nat) (hx : x < mem.length) : ∀ k, k ≤ ix.length → (addUp mem ix vs k).getD x 0 = (mem.getD x 0 + sumAt ix vs x k) % 256 := by
  intro k
  induction k with
  | zero =>
    intro _
    have := hm (mem.getD x 0) (by have : mem.getD x 0 = mem[x] := by simp [hx]
                                  rw [this]; exact List.getElem_mem hx)
    simp only [sumAt, Int.add_zero]
    rw [Int.emod_eq_of_lt (by omega) (by omega)]; rfl
  | succ k ih =>
    intro hk
    have h := ih (by omega)
    have hxk := hix (ix.getD k 0) (by have : ix.getD k 0 = ix[k] := by simp [show k < ix.length by omega]
                                      rw [this]; exact List.getElem_mem _)
    rw [addUp_succ, getD_set, addUp_len, sumAt]
    by_cases he : ix.getD k 0 = (x : Int)
    · rw [if_pos ⟨by omega, hx⟩, if_pos he, he, Int.toNat_natCast, h]
      rw [← Int.add_assoc]
      exact Int.emod_add_emod _ _ _
    · rw [if_neg (fun h' => he (by omega)), if_neg he, Int.add_zero, h]

theorem takL_sum_perm {mem a b : List Int} (h : a.Perm b) : (takL mem a).sum = (takL mem b).sum := perm_sum (h.map _)

end Go.Proofs.Ytonnnjaooifpjaa
