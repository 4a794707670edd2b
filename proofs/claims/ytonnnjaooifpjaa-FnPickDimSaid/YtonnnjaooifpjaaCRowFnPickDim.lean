/- Texts of these proofs put together: SliA, SliB, SliC, PureU, LawFnPickDim, RowFnPickDim. No condition. -/
import Derived.Test.YtonnnjaooifpjaaD1RowFnPickDim
import Derived.Test.YtonnnjaooifpjaaM1
import Derived.Test.YtonnnjaooifpjaaM2
import Derived.Test.YtonnnjaooifpjaaD2RowFnPickDim
import Derived.Test.YtonnnjaooifpjaaM3
import Derived.Test.YtonnnjaooifpjaaM5
set_option linter.unusedVariables false
set_option linter.unusedSimpArgs false
/- Walks: slices of the program. -/
namespace Go.Proofs.Ytonnnjaooifpjaa
open Go.RowKit
set_option linter.unusedVariables false
set_option maxRecDepth 100000

set_option maxHeartbeats 1600000 in
theorem isSlice_tt (F T B : Int) (w : World)  :
  Calls Try.prog 103 #[.agg #[.int .i64 F, .int .i64 T, .int .i64 B, .bool true, .bool true]] w (fun e w' => e = .returned (.bool (sliceB F T B true true)) ∧ Ext w w') := by
 go_enter Try.func103, Try.ntmps103
 by_cases hc2 : (B : Int) = (0 : Int)
 ·
  have hc2e : ((B : Int) == (0 : Int)) = true := by simpa using hc2
  have hc2n : ((B : Int) != (0 : Int)) = false := by simpa using hc2
  replace hc2 := Lib.hid hc2
  go_wp2_with fail
  go_ret
  exact ⟨by rw [show sliceB F T B true true = false by (have k0 := hc2.out; unfold sliceB inB; simp; omega)] <;> rfl, qXt⟩
 ·
  have hc2e : ((B : Int) == (0 : Int)) = false := by simpa using hc2
  have hc2n : ((B : Int) != (0 : Int)) = true := by simpa using hc2
  replace hc2 := Lib.hid hc2
  by_cases hc3 : (B : Int) < (-200 : Int)
  ·
   go_wp2_with fail
   go_ret
   exact ⟨by rw [show sliceB F T B true true = false by (have k0 := hc2.out; have k1 := hc3; unfold sliceB inB; simp; omega)] <;> rfl, qXt⟩
  ·
   by_cases hc4 : (200 : Int) < (B : Int)
   ·
    go_wp2_with fail
    go_ret
    exact ⟨by rw [show sliceB F T B true true = false by (have k0 := hc2.out; have k1 := hc3; have k2 := hc4; unfold sliceB inB; simp; omega)] <;> rfl, qXt⟩
   ·
    by_cases hc5 : (-100 : Int) ≤ (F : Int)
    ·
     by_cases hc6 : (F : Int) ≤ (100 : Int)
     ·
      by_cases hc7 : (-100 : Int) ≤ (T : Int)
      ·
       by_cases hc8 : (T : Int) ≤ (100 : Int)
       ·
        go_wp2_with fail
        go_ret
        exact ⟨by rw [show sliceB F T B true true = true by (have k0 := hc2.out; have k1 := hc3; have k2 := hc4; have k3 := hc5; have k4 := hc6; have k5 := hc7; have k6 := hc8; unfold sliceB inB; simp; omega)] <;> rfl, qXt⟩
       ·
        go_wp2_with fail
        go_ret
        exact ⟨by rw [show sliceB F T B true true = false by (have k0 := hc2.out; have k1 := hc3; have k2 := hc4; have k3 := hc5; have k4 := hc6; have k5 := hc7; have k6 := hc8; unfold sliceB inB; simp; omega)] <;> rfl, qXt⟩
      ·
       go_wp2_with fail
       go_ret
       exact ⟨by rw [show sliceB F T B true true = false by (have k0 := hc2.out; have k1 := hc3; have k2 := hc4; have k3 := hc5; have k4 := hc6; have k5 := hc7; unfold sliceB inB; simp; omega)] <;> rfl, qXt⟩
     ·
      go_wp2_with fail
      go_ret
      exact ⟨by rw [show sliceB F T B true true = false by (have k0 := hc2.out; have k1 := hc3; have k2 := hc4; have k3 := hc5; have k4 := hc6; unfold sliceB inB; simp; omega)] <;> rfl, qXt⟩
    ·
     go_wp2_with fail
     go_ret
     exact ⟨by rw [show sliceB F T B true true = false by (have k0 := hc2.out; have k1 := hc3; have k2 := hc4; have k3 := hc5; unfold sliceB inB; simp; omega)] <;> rfl, qXt⟩

set_option maxHeartbeats 1600000 in
theorem isSlice_tf (F T B : Int) (w : World)  :
  Calls Try.prog 103 #[.agg #[.int .i64 F, .int .i64 T, .int .i64 B, .bool true, .bool false]] w (fun e w' => e = .returned (.bool (sliceB F T B true false)) ∧ Ext w w') := by
 go_enter Try.func103, Try.ntmps103
 by_cases hc2 : (T : Int) = (0 : Int)
 ·
  have hc2e : ((T : Int) == (0 : Int)) = true := by simpa using hc2
  have hc2n : ((T : Int) != (0 : Int)) = false := by simpa using hc2
  replace hc2 := Lib.hid hc2
  by_cases hc3 : (B : Int) = (0 : Int)
  ·
   have hc3e : ((B : Int) == (0 : Int)) = true := by simpa using hc3
   have hc3n : ((B : Int) != (0 : Int)) = false := by simpa using hc3
   replace hc3 := Lib.hid hc3
   go_wp2_with fail
   go_ret
   exact ⟨by rw [show sliceB F T B true false = false by (have k0 := hc2.out; have k1 := hc3.out; unfold sliceB inB; simp; omega)] <;> rfl, qXt⟩
  ·
   have hc3e : ((B : Int) == (0 : Int)) = false := by simpa using hc3
   have hc3n : ((B : Int) != (0 : Int)) = true := by simpa using hc3
   replace hc3 := Lib.hid hc3
   by_cases hc4 : (B : Int) < (-200 : Int)
   ·
    go_wp2_with fail
    go_ret
    exact ⟨by rw [show sliceB F T B true false = false by (have k0 := hc2.out; have k1 := hc3.out; have k2 := hc4; unfold sliceB inB; simp; omega)] <;> rfl, qXt⟩
   ·
    by_cases hc5 : (200 : Int) < (B : Int)
    ·
     go_wp2_with fail
     go_ret
     exact ⟨by rw [show sliceB F T B true false = false by (have k0 := hc2.out; have k1 := hc3.out; have k2 := hc4; have k3 := hc5; unfold sliceB inB; simp; omega)] <;> rfl, qXt⟩
    ·
     by_cases hc6 : (-100 : Int) ≤ (F : Int)
     ·
      by_cases hc7 : (F : Int) ≤ (100 : Int)
      ·
       by_cases hc8 : (-100 : Int) ≤ (T : Int)
       ·
        by_cases hc9 : (T : Int) ≤ (100 : Int)
        ·
         go_wp2_with fail
         go_ret
         exact ⟨by rw [show sliceB F T B true false = true by (have k0 := hc2.out; have k1 := hc3.out; have k2 := hc4; have k3 := hc5; have k4 := hc6; have k5 := hc7; have k6 := hc8; have k7 := hc9; unfold sliceB inB; simp; omega)] <;> rfl, qXt⟩
        ·
         go_wp2_with fail
         go_ret
         exact ⟨by rw [show sliceB F T B true false = false by (have k0 := hc2.out; have k1 := hc3.out; have k2 := hc4; have k3 := hc5; have k4 := hc6; have k5 := hc7; have k6 := hc8; have k7 := hc9; unfold sliceB inB; simp; omega)] <;> rfl, qXt⟩
       ·
        go_wp2_with fail
        go_ret
        exact ⟨by rw [show sliceB F T B true false = false by (have k0 := hc2.out; have k1 := hc3.out; have k2 := hc4; have k3 := hc5; have k4 := hc6; have k5 := hc7; have k6 := hc8; unfold sliceB inB; simp; omega)] <;> rfl, qXt⟩
      ·
       go_wp2_with fail
       go_ret
       exact ⟨by rw [show sliceB F T B true false = false by (have k0 := hc2.out; have k1 := hc3.out; have k2 := hc4; have k3 := hc5; have k4 := hc6; have k5 := hc7; unfold sliceB inB; simp; omega)] <;> rfl, qXt⟩
     ·
      go_wp2_with fail
      go_ret
      exact ⟨by rw [show sliceB F T B true false = false by (have k0 := hc2.out; have k1 := hc3.out; have k2 := hc4; have k3 := hc5; have k4 := hc6; unfold sliceB inB; simp; omega)] <;> rfl, qXt⟩
 ·
  have hc2e : ((T : Int) == (0 : Int)) = false := by simpa using hc2
  have hc2n : ((T : Int) != (0 : Int)) = true := by simpa using hc2
  replace hc2 := Lib.hid hc2
  go_wp2_with fail
  go_ret
  exact ⟨by rw [show sliceB F T B true false = false by (have k0 := hc2.out; unfold sliceB inB; simp; omega)] <;> rfl, qXt⟩

set_option maxHeartbeats 1600000 in
theorem isSlice_ft (F T B : Int) (w : World)  :
  Calls Try.prog 103 #[.agg #[.int .i64 F, .int .i64 T, .int .i64 B, .bool false, .bool true]] w (fun e w' => e = .returned (.bool (sliceB F T B false true)) ∧ Ext w w') := by
 go_enter Try.func103, Try.ntmps103
 by_cases hc2 : (F : Int) = (0 : Int)
 ·
  have hc2e : ((F : Int) == (0 : Int)) = true := by simpa using hc2
  have hc2n : ((F : Int) != (0 : Int)) = false := by simpa using hc2
  replace hc2 := Lib.hid hc2
  by_cases hc3 : (B : Int) = (0 : Int)
  ·
   have hc3e : ((B : Int) == (0 : Int)) = true := by simpa using hc3
   have hc3n : ((B : Int) != (0 : Int)) = false := by simpa using hc3
   replace hc3 := Lib.hid hc3
   go_wp2_with fail
   go_ret
   exact ⟨by rw [show sliceB F T B false true = false by (have k0 := hc2.out; have k1 := hc3.out; unfold sliceB inB; simp; omega)] <;> rfl, qXt⟩
  ·
   have hc3e : ((B : Int) == (0 : Int)) = false := by simpa using hc3
   have hc3n : ((B : Int) != (0 : Int)) = true := by simpa using hc3
   replace hc3 := Lib.hid hc3
   by_cases hc4 : (B : Int) < (-200 : Int)
   ·
    go_wp2_with fail
    go_ret
    exact ⟨by rw [show sliceB F T B false true = false by (have k0 := hc2.out; have k1 := hc3.out; have k2 := hc4; unfold sliceB inB; simp; omega)] <;> rfl, qXt⟩
   ·
    by_cases hc5 : (200 : Int) < (B : Int)
    ·
     go_wp2_with fail
     go_ret
     exact ⟨by rw [show sliceB F T B false true = false by (have k0 := hc2.out; have k1 := hc3.out; have k2 := hc4; have k3 := hc5; unfold sliceB inB; simp; omega)] <;> rfl, qXt⟩
    ·
     by_cases hc6 : (-100 : Int) ≤ (F : Int)
     ·
      by_cases hc7 : (F : Int) ≤ (100 : Int)
      ·
       by_cases hc8 : (-100 : Int) ≤ (T : Int)
       ·
        by_cases hc9 : (T : Int) ≤ (100 : Int)
        ·
         go_wp2_with fail
         go_ret
         exact ⟨by rw [show sliceB F T B false true = true by (have k0 := hc2.out; have k1 := hc3.out; have k2 := hc4; have k3 := hc5; have k4 := hc6; have k5 := hc7; have k6 := hc8; have k7 := hc9; unfold sliceB inB; simp; omega)] <;> rfl, qXt⟩
        ·
         go_wp2_with fail
         go_ret
         exact ⟨by rw [show sliceB F T B false true = false by (have k0 := hc2.out; have k1 := hc3.out; have k2 := hc4; have k3 := hc5; have k4 := hc6; have k5 := hc7; have k6 := hc8; have k7 := hc9; unfold sliceB inB; simp; omega)] <;> rfl, qXt⟩
       ·
        go_wp2_with fail
        go_ret
        exact ⟨by rw [show sliceB F T B false true = false by (have k0 := hc2.out; have k1 := hc3.out; have k2 := hc4; have k3 := hc5; have k4 := hc6; have k5 := hc7; have k6 := hc8; unfold sliceB inB; simp; omega)] <;> rfl, qXt⟩
      ·
       go_wp2_with fail
       go_ret
       exact ⟨by rw [show sliceB F T B false true = false by (have k0 := hc2.out; have k1 := hc3.out; have k2 := hc4; have k3 := hc5; have k4 := hc6; have k5 := hc7; unfold sliceB inB; simp; omega)] <;> rfl, qXt⟩
     ·
      go_wp2_with fail
      go_ret
      exact ⟨by rw [show sliceB F T B false true = false by (have k0 := hc2.out; have k1 := hc3.out; have k2 := hc4; have k3 := hc5; have k4 := hc6; unfold sliceB inB; simp; omega)] <;> rfl, qXt⟩
 ·
  have hc2e : ((F : Int) == (0 : Int)) = false := by simpa using hc2
  have hc2n : ((F : Int) != (0 : Int)) = true := by simpa using hc2
  replace hc2 := Lib.hid hc2
  go_wp2_with fail
  go_ret
  exact ⟨by rw [show sliceB F T B false true = false by (have k0 := hc2.out; unfold sliceB inB; simp; omega)] <;> rfl, qXt⟩

set_option maxHeartbeats 1600000 in
theorem isSlice_ff (F T B : Int) (w : World)  :
  Calls Try.prog 103 #[.agg #[.int .i64 F, .int .i64 T, .int .i64 B, .bool false, .bool false]] w (fun e w' => e = .returned (.bool (sliceB F T B false false)) ∧ Ext w w') := by
 go_enter Try.func103, Try.ntmps103
 by_cases hc2 : (F : Int) = (0 : Int)
 ·
  have hc2e : ((F : Int) == (0 : Int)) = true := by simpa using hc2
  have hc2n : ((F : Int) != (0 : Int)) = false := by simpa using hc2
  replace hc2 := Lib.hid hc2
  by_cases hc3 : (T : Int) = (0 : Int)
  ·
   have hc3e : ((T : Int) == (0 : Int)) = true := by simpa using hc3
   have hc3n : ((T : Int) != (0 : Int)) = false := by simpa using hc3
   replace hc3 := Lib.hid hc3
   by_cases hc4 : (B : Int) = (0 : Int)
   ·
    have hc4e : ((B : Int) == (0 : Int)) = true := by simpa using hc4
    have hc4n : ((B : Int) != (0 : Int)) = false := by simpa using hc4
    replace hc4 := Lib.hid hc4
    go_wp2_with fail
    go_ret
    exact ⟨by rw [show sliceB F T B false false = false by (have k0 := hc2.out; have k1 := hc3.out; have k2 := hc4.out; unfold sliceB inB; simp; omega)] <;> rfl, qXt⟩
   ·
    have hc4e : ((B : Int) == (0 : Int)) = false := by simpa using hc4
    have hc4n : ((B : Int) != (0 : Int)) = true := by simpa using hc4
    replace hc4 := Lib.hid hc4
    by_cases hc5 : (B : Int) < (-200 : Int)
    ·
     go_wp2_with fail
     go_ret
     exact ⟨by rw [show sliceB F T B false false = false by (have k0 := hc2.out; have k1 := hc3.out; have k2 := hc4.out; have k3 := hc5; unfold sliceB inB; simp; omega)] <;> rfl, qXt⟩
    ·
     by_cases hc6 : (200 : Int) < (B : Int)
     ·
      go_wp2_with fail
      go_ret
      exact ⟨by rw [show sliceB F T B false false = false by (have k0 := hc2.out; have k1 := hc3.out; have k2 := hc4.out; have k3 := hc5; have k4 := hc6; unfold sliceB inB; simp; omega)] <;> rfl, qXt⟩
     ·
      by_cases hc7 : (-100 : Int) ≤ (F : Int)
      ·
       by_cases hc8 : (F : Int) ≤ (100 : Int)
       ·
        by_cases hc9 : (-100 : Int) ≤ (T : Int)
        ·
         by_cases hc10 : (T : Int) ≤ (100 : Int)
         ·
          go_wp2_with fail
          go_ret
          exact ⟨by rw [show sliceB F T B false false = true by (have k0 := hc2.out; have k1 := hc3.out; have k2 := hc4.out; have k3 := hc5; have k4 := hc6; have k5 := hc7; have k6 := hc8; have k7 := hc9; have k8 := hc10; unfold sliceB inB; simp; omega)] <;> rfl, qXt⟩
         ·
          go_wp2_with fail
          go_ret
          exact ⟨by rw [show sliceB F T B false false = false by (have k0 := hc2.out; have k1 := hc3.out; have k2 := hc4.out; have k3 := hc5; have k4 := hc6; have k5 := hc7; have k6 := hc8; have k7 := hc9; have k8 := hc10; unfold sliceB inB; simp; omega)] <;> rfl, qXt⟩
        ·
         go_wp2_with fail
         go_ret
         exact ⟨by rw [show sliceB F T B false false = false by (have k0 := hc2.out; have k1 := hc3.out; have k2 := hc4.out; have k3 := hc5; have k4 := hc6; have k5 := hc7; have k6 := hc8; have k7 := hc9; unfold sliceB inB; simp; omega)] <;> rfl, qXt⟩
       ·
        go_wp2_with fail
        go_ret
        exact ⟨by rw [show sliceB F T B false false = false by (have k0 := hc2.out; have k1 := hc3.out; have k2 := hc4.out; have k3 := hc5; have k4 := hc6; have k5 := hc7; have k6 := hc8; unfold sliceB inB; simp; omega)] <;> rfl, qXt⟩
      ·
       go_wp2_with fail
       go_ret
       exact ⟨by rw [show sliceB F T B false false = false by (have k0 := hc2.out; have k1 := hc3.out; have k2 := hc4.out; have k3 := hc5; have k4 := hc6; have k5 := hc7; unfold sliceB inB; simp; omega)] <;> rfl, qXt⟩
  ·
   have hc3e : ((T : Int) == (0 : Int)) = false := by simpa using hc3
   have hc3n : ((T : Int) != (0 : Int)) = true := by simpa using hc3
   replace hc3 := Lib.hid hc3
   go_wp2_with fail
   go_ret
   exact ⟨by rw [show sliceB F T B false false = false by (have k0 := hc2.out; have k1 := hc3.out; unfold sliceB inB; simp; omega)] <;> rfl, qXt⟩
 ·
  have hc2e : ((F : Int) == (0 : Int)) = false := by simpa using hc2
  have hc2n : ((F : Int) != (0 : Int)) = true := by simpa using hc2
  replace hc2 := Lib.hid hc2
  go_wp2_with fail
  go_ret
  exact ⟨by rw [show sliceB F T B false false = false by (have k0 := hc2.out; unfold sliceB inB; simp; omega)] <;> rfl, qXt⟩

set_option maxHeartbeats 1600000 in
theorem isSlice_c (F T B : Int) (hf ht : Bool) (w : World)  :
  Calls Try.prog 103 #[.agg #[.int .i64 F, .int .i64 T, .int .i64 B, .bool hf, .bool ht]] w (fun e w' => e = .returned (.bool (sliceB F T B hf ht)) ∧ Ext w w') := by
 cases hf <;> cases ht
 ·
  exact isSlice_ff F T B w
 ·
  exact isSlice_ft F T B w
 ·
  exact isSlice_tf F T B w
 ·
  exact isSlice_tt F T B w

set_option maxHeartbeats 1600000 in
theorem endOf_c (n x b : Int) (w : World) (hn : 0 ≤ n ∧ n ≤ 200) (hx : -200 ≤ x ∧ x ≤ 200) :
  Calls Try.prog 143 #[.int .i64 n, .int .i64 x, .int .i64 b] w (fun e w' => e = .returned (.int .i64 (boundI n x b)) ∧ w = w') := by
 go_enter Try.func143, Try.ntmps143
 by_cases hc1 : (x : Int) < (0 : Int)
 ·
  by_cases hc2 : (b : Int) < (0 : Int)
  ·
   go_wp2_with fail
   go_ret
   exact ⟨by rw [show boundI n x b = min (max (x + n) (-1)) (n - 1) by (have k0 := hc1; have k1 := hc2; unfold boundI; (repeat' split) <;> omega)] <;> rfl, rfl⟩
  ·
   go_wp2_with fail
   go_ret
   exact ⟨by rw [show boundI n x b = min (max (x + n) 0) n by (have k0 := hc1; have k1 := hc2; unfold boundI; (repeat' split) <;> omega)] <;> rfl, rfl⟩
 ·
  by_cases hc3 : (b : Int) < (0 : Int)
  ·
   go_wp2_with fail
   go_ret
   exact ⟨by rw [show boundI n x b = min (max x (-1)) (n - 1) by (have k0 := hc1; have k1 := hc3; unfold boundI; (repeat' split) <;> omega)] <;> rfl, rfl⟩
  ·
   go_wp2_with fail
   go_ret
   exact ⟨by rw [show boundI n x b = min (max x 0) n by (have k0 := hc1; have k1 := hc3; unfold boundI; (repeat' split) <;> omega)] <;> rfl, rfl⟩

set_option maxHeartbeats 1600000 in
theorem indicesOf_tt (n F T B : Int) (w : World) (hn : 0 ≤ n ∧ n ≤ 200) (hs : (-100 ≤ F ∧ F ≤ 100) ∧ (-100 ≤ T ∧ T ≤ 100) ∧ (-200 ≤ B ∧ B ≤ 200) ∧ B ≠ 0) :
  Calls Try.prog 110 #[.int .i64 n, .agg #[.int .i64 F, .int .i64 T, .int .i64 B, .bool true, .bool true]] w (PInts w (idxS n F T B true true)) := by
 go_enter Try.func110, Try.ntmps110
 by_cases hc3 : (B : Int) < (0 : Int)
 ·
  go_wp2_with fail
  refine (endOf_c n F B _ (by omega) (by omega)).mono ?_
  rintro e w' ⟨rfl, rfl⟩
  go_wp2_with fail
  refine (endOf_c n T B _ (by omega) (by omega)).mono ?_
  rintro e w' ⟨rfl, rfl⟩
  go_wp2_with fail
  refine (numbersOf_c (boundI n F B) (boundI n T B) B _ (by have := boundI_in (n := n) (x := F) (b := B) hn.1; have := boundI_in (n := n) (x := T) (b := B) hn.1; omega) (by have := boundI_in (n := n) (x := F) (b := B) hn.1; have := boundI_in (n := n) (x := T) (b := B) hn.1; omega) (by have := boundI_in (n := n) (x := F) (b := B) hn.1; have := boundI_in (n := n) (x := T) (b := B) hn.1; omega) hs.2.2.2).mono ?_
  rintro e w1 ⟨fv4, rfl, i5, i5z, xw1⟩
  have Lw1 : Ext w w1 := Ext.trans qXt xw1
  have Xw1 : Ext w w1 := Lw1
  have b10 : w1.cell? ⟨w.heap.size, 0, none⟩ = some (.int .i64 F) := xw1.cell qCl
  have b11 : w1.cell? ⟨w.heap.size, 1, none⟩ = some (.int .i64 T) := xw1.cell qCl
  have b12 : w1.cell? ⟨w.heap.size, 2, none⟩ = some (.int .i64 B) := xw1.cell qCl
  have b13 : w1.cell? ⟨w.heap.size, 3, none⟩ = some (.bool true) := xw1.cell qCl
  have b14 : w1.cell? ⟨w.heap.size, 4, none⟩ = some (.bool true) := xw1.cell qCl
  have b20 : w1.cell? ⟨w.heap.size + 1, 0, none⟩ = some (.int .i64 (boundI n F B)) := xw1.cell qCl
  have b21 : w1.cell? ⟨w.heap.size + 1, 1, none⟩ = some (.int .i64 (boundI n T B)) := xw1.cell qCl
  have b22 : w1.cell? ⟨w.heap.size + 1, 2, none⟩ = some (.int .i64 B) := xw1.cell qCl
  have f_b20 : w1.frozen? ⟨w.heap.size + 1, 0, none⟩ = false := xw1.frz (by simp <;> omega) qFz
  have f_b21 : w1.frozen? ⟨w.heap.size + 1, 1, none⟩ = false := xw1.frz (by simp <;> omega) qFz
  have f_b22 : w1.frozen? ⟨w.heap.size + 1, 2, none⟩ = false := xw1.frz (by simp <;> omega) qFz
  have z_b1 : w.heap.size < w1.heap.size := qB b10
  have z_b2 : w.heap.size + 1 < w1.heap.size := qB b20
  have s_w1 : w.heap.size ≤ w1.heap.size := Xw1.size
  clear xw1
  try simp only [World.size_alloc, World.size_drew] at i5
  try simp only [World.size_alloc, World.size_drew] at i5z
  obtain ⟨afv4, cfv4, rfl⟩ := i5.form
  go_wp2_with fail
  go_ret
  rw [show idxS n F T B true true = numL (boundI n F B) (boundI n T B) B by (have k0 := hc3; unfold idxS fromI toI; simp only [reduceIte, Bool.false_eq_true] <;> (repeat' split) <;> first | rfl | (exfalso; omega))]
  exact ⟨_, rfl, i5.lower (by omega), i5z.lower (by omega), Xw1⟩
 ·
  go_wp2_with fail
  refine (endOf_c n F B _ (by omega) (by omega)).mono ?_
  rintro e w' ⟨rfl, rfl⟩
  go_wp2_with fail
  refine (endOf_c n T B _ (by omega) (by omega)).mono ?_
  rintro e w' ⟨rfl, rfl⟩
  go_wp2_with fail
  refine (numbersOf_c (boundI n F B) (boundI n T B) B _ (by have := boundI_in (n := n) (x := F) (b := B) hn.1; have := boundI_in (n := n) (x := T) (b := B) hn.1; omega) (by have := boundI_in (n := n) (x := F) (b := B) hn.1; have := boundI_in (n := n) (x := T) (b := B) hn.1; omega) (by have := boundI_in (n := n) (x := F) (b := B) hn.1; have := boundI_in (n := n) (x := T) (b := B) hn.1; omega) hs.2.2.2).mono ?_
  rintro e w1 ⟨fv6, rfl, i7, i7z, xw1⟩
  have Lw1 : Ext w w1 := Ext.trans qXt xw1
  have Xw1 : Ext w w1 := Lw1
  have b10 : w1.cell? ⟨w.heap.size, 0, none⟩ = some (.int .i64 F) := xw1.cell qCl
  have b11 : w1.cell? ⟨w.heap.size, 1, none⟩ = some (.int .i64 T) := xw1.cell qCl
  have b12 : w1.cell? ⟨w.heap.size, 2, none⟩ = some (.int .i64 B) := xw1.cell qCl
  have b13 : w1.cell? ⟨w.heap.size, 3, none⟩ = some (.bool true) := xw1.cell qCl
  have b14 : w1.cell? ⟨w.heap.size, 4, none⟩ = some (.bool true) := xw1.cell qCl
  have b20 : w1.cell? ⟨w.heap.size + 1, 0, none⟩ = some (.int .i64 (boundI n F B)) := xw1.cell qCl
  have b21 : w1.cell? ⟨w.heap.size + 1, 1, none⟩ = some (.int .i64 (boundI n T B)) := xw1.cell qCl
  have b22 : w1.cell? ⟨w.heap.size + 1, 2, none⟩ = some (.int .i64 B) := xw1.cell qCl
  have f_b20 : w1.frozen? ⟨w.heap.size + 1, 0, none⟩ = false := xw1.frz (by simp <;> omega) qFz
  have f_b21 : w1.frozen? ⟨w.heap.size + 1, 1, none⟩ = false := xw1.frz (by simp <;> omega) qFz
  have f_b22 : w1.frozen? ⟨w.heap.size + 1, 2, none⟩ = false := xw1.frz (by simp <;> omega) qFz
  have z_b1 : w.heap.size < w1.heap.size := qB b10
  have z_b2 : w.heap.size + 1 < w1.heap.size := qB b20
  have s_w1 : w.heap.size ≤ w1.heap.size := Xw1.size
  clear xw1
  try simp only [World.size_alloc, World.size_drew] at i7
  try simp only [World.size_alloc, World.size_drew] at i7z
  obtain ⟨afv6, cfv6, rfl⟩ := i7.form
  go_wp2_with fail
  go_ret
  rw [show idxS n F T B true true = numL (boundI n F B) (boundI n T B) B by (have k0 := hc3; unfold idxS fromI toI; simp only [reduceIte, Bool.false_eq_true] <;> (repeat' split) <;> first | rfl | (exfalso; omega))]
  exact ⟨_, rfl, i7.lower (by omega), i7z.lower (by omega), Xw1⟩

set_option maxHeartbeats 1600000 in
theorem indicesOf_tf (n F T B : Int) (w : World) (hn : 0 ≤ n ∧ n ≤ 200) (hs : (-100 ≤ F ∧ F ≤ 100) ∧ (-100 ≤ T ∧ T ≤ 100) ∧ (-200 ≤ B ∧ B ≤ 200) ∧ B ≠ 0) :
  Calls Try.prog 110 #[.int .i64 n, .agg #[.int .i64 F, .int .i64 T, .int .i64 B, .bool true, .bool false]] w (PInts w (idxS n F T B true false)) := by
 go_enter Try.func110, Try.ntmps110
 by_cases hc3 : (B : Int) < (0 : Int)
 ·
  go_wp2_with fail
  refine (endOf_c n F B _ (by omega) (by omega)).mono ?_
  rintro e w' ⟨rfl, rfl⟩
  go_wp2_with fail
  refine (numbersOf_c (boundI n F B) (-1) B _ (by have := boundI_in (n := n) (x := F) (b := B) hn.1; have := boundI_in (n := n) (x := T) (b := B) hn.1; omega) (by have := boundI_in (n := n) (x := F) (b := B) hn.1; have := boundI_in (n := n) (x := T) (b := B) hn.1; omega) (by have := boundI_in (n := n) (x := F) (b := B) hn.1; have := boundI_in (n := n) (x := T) (b := B) hn.1; omega) hs.2.2.2).mono ?_
  rintro e w1 ⟨fv4, rfl, i5, i5z, xw1⟩
  have Lw1 : Ext w w1 := Ext.trans qXt xw1
  have Xw1 : Ext w w1 := Lw1
  have b10 : w1.cell? ⟨w.heap.size, 0, none⟩ = some (.int .i64 F) := xw1.cell qCl
  have b11 : w1.cell? ⟨w.heap.size, 1, none⟩ = some (.int .i64 T) := xw1.cell qCl
  have b12 : w1.cell? ⟨w.heap.size, 2, none⟩ = some (.int .i64 B) := xw1.cell qCl
  have b13 : w1.cell? ⟨w.heap.size, 3, none⟩ = some (.bool true) := xw1.cell qCl
  have b14 : w1.cell? ⟨w.heap.size, 4, none⟩ = some (.bool false) := xw1.cell qCl
  have b20 : w1.cell? ⟨w.heap.size + 1, 0, none⟩ = some (.int .i64 (boundI n F B)) := xw1.cell qCl
  have b21 : w1.cell? ⟨w.heap.size + 1, 1, none⟩ = some (.int .i64 (-1)) := xw1.cell qCl
  have b22 : w1.cell? ⟨w.heap.size + 1, 2, none⟩ = some (.int .i64 B) := xw1.cell qCl
  have f_b20 : w1.frozen? ⟨w.heap.size + 1, 0, none⟩ = false := xw1.frz (by simp <;> omega) qFz
  have f_b21 : w1.frozen? ⟨w.heap.size + 1, 1, none⟩ = false := xw1.frz (by simp <;> omega) qFz
  have f_b22 : w1.frozen? ⟨w.heap.size + 1, 2, none⟩ = false := xw1.frz (by simp <;> omega) qFz
  have z_b1 : w.heap.size < w1.heap.size := qB b10
  have z_b2 : w.heap.size + 1 < w1.heap.size := qB b20
  have s_w1 : w.heap.size ≤ w1.heap.size := Xw1.size
  clear xw1
  try simp only [World.size_alloc, World.size_drew] at i5
  try simp only [World.size_alloc, World.size_drew] at i5z
  obtain ⟨afv4, cfv4, rfl⟩ := i5.form
  go_wp2_with fail
  go_ret
  rw [show idxS n F T B true false = numL (boundI n F B) (-1) B by (have k0 := hc3; unfold idxS fromI toI; simp only [reduceIte, Bool.false_eq_true] <;> (repeat' split) <;> first | rfl | (exfalso; omega))]
  exact ⟨_, rfl, i5.lower (by omega), i5z.lower (by omega), Xw1⟩
 ·
  go_wp2_with fail
  refine (endOf_c n F B _ (by omega) (by omega)).mono ?_
  rintro e w' ⟨rfl, rfl⟩
  go_wp2_with fail
  refine (numbersOf_c (boundI n F B) n B _ (by have := boundI_in (n := n) (x := F) (b := B) hn.1; have := boundI_in (n := n) (x := T) (b := B) hn.1; omega) (by have := boundI_in (n := n) (x := F) (b := B) hn.1; have := boundI_in (n := n) (x := T) (b := B) hn.1; omega) (by have := boundI_in (n := n) (x := F) (b := B) hn.1; have := boundI_in (n := n) (x := T) (b := B) hn.1; omega) hs.2.2.2).mono ?_
  rintro e w1 ⟨fv6, rfl, i7, i7z, xw1⟩
  have Lw1 : Ext w w1 := Ext.trans qXt xw1
  have Xw1 : Ext w w1 := Lw1
  have b10 : w1.cell? ⟨w.heap.size, 0, none⟩ = some (.int .i64 F) := xw1.cell qCl
  have b11 : w1.cell? ⟨w.heap.size, 1, none⟩ = some (.int .i64 T) := xw1.cell qCl
  have b12 : w1.cell? ⟨w.heap.size, 2, none⟩ = some (.int .i64 B) := xw1.cell qCl
  have b13 : w1.cell? ⟨w.heap.size, 3, none⟩ = some (.bool true) := xw1.cell qCl
  have b14 : w1.cell? ⟨w.heap.size, 4, none⟩ = some (.bool false) := xw1.cell qCl
  have b20 : w1.cell? ⟨w.heap.size + 1, 0, none⟩ = some (.int .i64 (boundI n F B)) := xw1.cell qCl
  have b21 : w1.cell? ⟨w.heap.size + 1, 1, none⟩ = some (.int .i64 n) := xw1.cell qCl
  have b22 : w1.cell? ⟨w.heap.size + 1, 2, none⟩ = some (.int .i64 B) := xw1.cell qCl
  have f_b20 : w1.frozen? ⟨w.heap.size + 1, 0, none⟩ = false := xw1.frz (by simp <;> omega) qFz
  have f_b21 : w1.frozen? ⟨w.heap.size + 1, 1, none⟩ = false := xw1.frz (by simp <;> omega) qFz
  have f_b22 : w1.frozen? ⟨w.heap.size + 1, 2, none⟩ = false := xw1.frz (by simp <;> omega) qFz
  have z_b1 : w.heap.size < w1.heap.size := qB b10
  have z_b2 : w.heap.size + 1 < w1.heap.size := qB b20
  have s_w1 : w.heap.size ≤ w1.heap.size := Xw1.size
  clear xw1
  try simp only [World.size_alloc, World.size_drew] at i7
  try simp only [World.size_alloc, World.size_drew] at i7z
  obtain ⟨afv6, cfv6, rfl⟩ := i7.form
  go_wp2_with fail
  go_ret
  rw [show idxS n F T B true false = numL (boundI n F B) n B by (have k0 := hc3; unfold idxS fromI toI; simp only [reduceIte, Bool.false_eq_true] <;> (repeat' split) <;> first | rfl | (exfalso; omega))]
  exact ⟨_, rfl, i7.lower (by omega), i7z.lower (by omega), Xw1⟩

set_option maxHeartbeats 1600000 in
theorem indicesOf_ft (n F T B : Int) (w : World) (hn : 0 ≤ n ∧ n ≤ 200) (hs : (-100 ≤ F ∧ F ≤ 100) ∧ (-100 ≤ T ∧ T ≤ 100) ∧ (-200 ≤ B ∧ B ≤ 200) ∧ B ≠ 0) :
  Calls Try.prog 110 #[.int .i64 n, .agg #[.int .i64 F, .int .i64 T, .int .i64 B, .bool false, .bool true]] w (PInts w (idxS n F T B false true)) := by
 go_enter Try.func110, Try.ntmps110
 by_cases hc3 : (B : Int) < (0 : Int)
 ·
  go_wp2_with fail
  refine (endOf_c n T B _ (by omega) (by omega)).mono ?_
  rintro e w' ⟨rfl, rfl⟩
  go_wp2_with fail
  refine (numbersOf_c (n - 1) (boundI n T B) B _ (by have := boundI_in (n := n) (x := F) (b := B) hn.1; have := boundI_in (n := n) (x := T) (b := B) hn.1; omega) (by have := boundI_in (n := n) (x := F) (b := B) hn.1; have := boundI_in (n := n) (x := T) (b := B) hn.1; omega) (by have := boundI_in (n := n) (x := F) (b := B) hn.1; have := boundI_in (n := n) (x := T) (b := B) hn.1; omega) hs.2.2.2).mono ?_
  rintro e w1 ⟨fv4, rfl, i5, i5z, xw1⟩
  have Lw1 : Ext w w1 := Ext.trans qXt xw1
  have Xw1 : Ext w w1 := Lw1
  have b10 : w1.cell? ⟨w.heap.size, 0, none⟩ = some (.int .i64 F) := xw1.cell qCl
  have b11 : w1.cell? ⟨w.heap.size, 1, none⟩ = some (.int .i64 T) := xw1.cell qCl
  have b12 : w1.cell? ⟨w.heap.size, 2, none⟩ = some (.int .i64 B) := xw1.cell qCl
  have b13 : w1.cell? ⟨w.heap.size, 3, none⟩ = some (.bool false) := xw1.cell qCl
  have b14 : w1.cell? ⟨w.heap.size, 4, none⟩ = some (.bool true) := xw1.cell qCl
  have b20 : w1.cell? ⟨w.heap.size + 1, 0, none⟩ = some (.int .i64 (n - 1)) := xw1.cell qCl
  have b21 : w1.cell? ⟨w.heap.size + 1, 1, none⟩ = some (.int .i64 (boundI n T B)) := xw1.cell qCl
  have b22 : w1.cell? ⟨w.heap.size + 1, 2, none⟩ = some (.int .i64 B) := xw1.cell qCl
  have f_b20 : w1.frozen? ⟨w.heap.size + 1, 0, none⟩ = false := xw1.frz (by simp <;> omega) qFz
  have f_b21 : w1.frozen? ⟨w.heap.size + 1, 1, none⟩ = false := xw1.frz (by simp <;> omega) qFz
  have f_b22 : w1.frozen? ⟨w.heap.size + 1, 2, none⟩ = false := xw1.frz (by simp <;> omega) qFz
  have z_b1 : w.heap.size < w1.heap.size := qB b10
  have z_b2 : w.heap.size + 1 < w1.heap.size := qB b20
  have s_w1 : w.heap.size ≤ w1.heap.size := Xw1.size
  clear xw1
  try simp only [World.size_alloc, World.size_drew] at i5
  try simp only [World.size_alloc, World.size_drew] at i5z
  obtain ⟨afv4, cfv4, rfl⟩ := i5.form
  go_wp2_with fail
  go_ret
  rw [show idxS n F T B false true = numL (n - 1) (boundI n T B) B by (have k0 := hc3; unfold idxS fromI toI; simp only [reduceIte, Bool.false_eq_true] <;> (repeat' split) <;> first | rfl | (exfalso; omega))]
  exact ⟨_, rfl, i5.lower (by omega), i5z.lower (by omega), Xw1⟩
 ·
  go_wp2_with fail
  refine (endOf_c n T B _ (by omega) (by omega)).mono ?_
  rintro e w' ⟨rfl, rfl⟩
  go_wp2_with fail
  refine (numbersOf_c 0 (boundI n T B) B _ (by have := boundI_in (n := n) (x := F) (b := B) hn.1; have := boundI_in (n := n) (x := T) (b := B) hn.1; omega) (by have := boundI_in (n := n) (x := F) (b := B) hn.1; have := boundI_in (n := n) (x := T) (b := B) hn.1; omega) (by have := boundI_in (n := n) (x := F) (b := B) hn.1; have := boundI_in (n := n) (x := T) (b := B) hn.1; omega) hs.2.2.2).mono ?_
  rintro e w1 ⟨fv6, rfl, i7, i7z, xw1⟩
  have Lw1 : Ext w w1 := Ext.trans qXt xw1
  have Xw1 : Ext w w1 := Lw1
  have b10 : w1.cell? ⟨w.heap.size, 0, none⟩ = some (.int .i64 F) := xw1.cell qCl
  have b11 : w1.cell? ⟨w.heap.size, 1, none⟩ = some (.int .i64 T) := xw1.cell qCl
  have b12 : w1.cell? ⟨w.heap.size, 2, none⟩ = some (.int .i64 B) := xw1.cell qCl
  have b13 : w1.cell? ⟨w.heap.size, 3, none⟩ = some (.bool false) := xw1.cell qCl
  have b14 : w1.cell? ⟨w.heap.size, 4, none⟩ = some (.bool true) := xw1.cell qCl
  have b20 : w1.cell? ⟨w.heap.size + 1, 0, none⟩ = some (.int .i64 0) := xw1.cell qCl
  have b21 : w1.cell? ⟨w.heap.size + 1, 1, none⟩ = some (.int .i64 (boundI n T B)) := xw1.cell qCl
  have b22 : w1.cell? ⟨w.heap.size + 1, 2, none⟩ = some (.int .i64 B) := xw1.cell qCl
  have f_b20 : w1.frozen? ⟨w.heap.size + 1, 0, none⟩ = false := xw1.frz (by simp <;> omega) qFz
  have f_b21 : w1.frozen? ⟨w.heap.size + 1, 1, none⟩ = false := xw1.frz (by simp <;> omega) qFz
  have f_b22 : w1.frozen? ⟨w.heap.size + 1, 2, none⟩ = false := xw1.frz (by simp <;> omega) qFz
  have z_b1 : w.heap.size < w1.heap.size := qB b10
  have z_b2 : w.heap.size + 1 < w1.heap.size := qB b20
  have s_w1 : w.heap.size ≤ w1.heap.size := Xw1.size
  clear xw1
  try simp only [World.size_alloc, World.size_drew] at i7
  try simp only [World.size_alloc, World.size_drew] at i7z
  obtain ⟨afv6, cfv6, rfl⟩ := i7.form
  go_wp2_with fail
  go_ret
  rw [show idxS n F T B false true = numL 0 (boundI n T B) B by (have k0 := hc3; unfold idxS fromI toI; simp only [reduceIte, Bool.false_eq_true] <;> (repeat' split) <;> first | rfl | (exfalso; omega))]
  exact ⟨_, rfl, i7.lower (by omega), i7z.lower (by omega), Xw1⟩

set_option maxHeartbeats 1600000 in
theorem indicesOf_ff (n F T B : Int) (w : World) (hn : 0 ≤ n ∧ n ≤ 200) (hs : (-100 ≤ F ∧ F ≤ 100) ∧ (-100 ≤ T ∧ T ≤ 100) ∧ (-200 ≤ B ∧ B ≤ 200) ∧ B ≠ 0) :
  Calls Try.prog 110 #[.int .i64 n, .agg #[.int .i64 F, .int .i64 T, .int .i64 B, .bool false, .bool false]] w (PInts w (idxS n F T B false false)) := by
 go_enter Try.func110, Try.ntmps110
 by_cases hc3 : (B : Int) < (0 : Int)
 ·
  go_wp2_with fail
  refine (numbersOf_c (n - 1) (-1) B _ (by have := boundI_in (n := n) (x := F) (b := B) hn.1; have := boundI_in (n := n) (x := T) (b := B) hn.1; omega) (by have := boundI_in (n := n) (x := F) (b := B) hn.1; have := boundI_in (n := n) (x := T) (b := B) hn.1; omega) (by have := boundI_in (n := n) (x := F) (b := B) hn.1; have := boundI_in (n := n) (x := T) (b := B) hn.1; omega) hs.2.2.2).mono ?_
  rintro e w1 ⟨fv4, rfl, i5, i5z, xw1⟩
  have Lw1 : Ext w w1 := Ext.trans qXt xw1
  have Xw1 : Ext w w1 := Lw1
  have b10 : w1.cell? ⟨w.heap.size, 0, none⟩ = some (.int .i64 F) := xw1.cell qCl
  have b11 : w1.cell? ⟨w.heap.size, 1, none⟩ = some (.int .i64 T) := xw1.cell qCl
  have b12 : w1.cell? ⟨w.heap.size, 2, none⟩ = some (.int .i64 B) := xw1.cell qCl
  have b13 : w1.cell? ⟨w.heap.size, 3, none⟩ = some (.bool false) := xw1.cell qCl
  have b14 : w1.cell? ⟨w.heap.size, 4, none⟩ = some (.bool false) := xw1.cell qCl
  have b20 : w1.cell? ⟨w.heap.size + 1, 0, none⟩ = some (.int .i64 (n - 1)) := xw1.cell qCl
  have b21 : w1.cell? ⟨w.heap.size + 1, 1, none⟩ = some (.int .i64 (-1)) := xw1.cell qCl
  have b22 : w1.cell? ⟨w.heap.size + 1, 2, none⟩ = some (.int .i64 B) := xw1.cell qCl
  have f_b20 : w1.frozen? ⟨w.heap.size + 1, 0, none⟩ = false := xw1.frz (by simp <;> omega) qFz
  have f_b21 : w1.frozen? ⟨w.heap.size + 1, 1, none⟩ = false := xw1.frz (by simp <;> omega) qFz
  have f_b22 : w1.frozen? ⟨w.heap.size + 1, 2, none⟩ = false := xw1.frz (by simp <;> omega) qFz
  have z_b1 : w.heap.size < w1.heap.size := qB b10
  have z_b2 : w.heap.size + 1 < w1.heap.size := qB b20
  have s_w1 : w.heap.size ≤ w1.heap.size := Xw1.size
  clear xw1
  try simp only [World.size_alloc, World.size_drew] at i5
  try simp only [World.size_alloc, World.size_drew] at i5z
  obtain ⟨afv4, cfv4, rfl⟩ := i5.form
  go_wp2_with fail
  go_ret
  rw [show idxS n F T B false false = numL (n - 1) (-1) B by (have k0 := hc3; unfold idxS fromI toI; simp only [reduceIte, Bool.false_eq_true] <;> (repeat' split) <;> first | rfl | (exfalso; omega))]
  exact ⟨_, rfl, i5.lower (by omega), i5z.lower (by omega), Xw1⟩
 ·
  go_wp2_with fail
  refine (numbersOf_c 0 n B _ (by have := boundI_in (n := n) (x := F) (b := B) hn.1; have := boundI_in (n := n) (x := T) (b := B) hn.1; omega) (by have := boundI_in (n := n) (x := F) (b := B) hn.1; have := boundI_in (n := n) (x := T) (b := B) hn.1; omega) (by have := boundI_in (n := n) (x := F) (b := B) hn.1; have := boundI_in (n := n) (x := T) (b := B) hn.1; omega) hs.2.2.2).mono ?_
  rintro e w1 ⟨fv6, rfl, i7, i7z, xw1⟩
  have Lw1 : Ext w w1 := Ext.trans qXt xw1
  have Xw1 : Ext w w1 := Lw1
  have b10 : w1.cell? ⟨w.heap.size, 0, none⟩ = some (.int .i64 F) := xw1.cell qCl
  have b11 : w1.cell? ⟨w.heap.size, 1, none⟩ = some (.int .i64 T) := xw1.cell qCl
  have b12 : w1.cell? ⟨w.heap.size, 2, none⟩ = some (.int .i64 B) := xw1.cell qCl
  have b13 : w1.cell? ⟨w.heap.size, 3, none⟩ = some (.bool false) := xw1.cell qCl
  have b14 : w1.cell? ⟨w.heap.size, 4, none⟩ = some (.bool false) := xw1.cell qCl
  have b20 : w1.cell? ⟨w.heap.size + 1, 0, none⟩ = some (.int .i64 0) := xw1.cell qCl
  have b21 : w1.cell? ⟨w.heap.size + 1, 1, none⟩ = some (.int .i64 n) := xw1.cell qCl
  have b22 : w1.cell? ⟨w.heap.size + 1, 2, none⟩ = some (.int .i64 B) := xw1.cell qCl
  have f_b20 : w1.frozen? ⟨w.heap.size + 1, 0, none⟩ = false := xw1.frz (by simp <;> omega) qFz
  have f_b21 : w1.frozen? ⟨w.heap.size + 1, 1, none⟩ = false := xw1.frz (by simp <;> omega) qFz
  have f_b22 : w1.frozen? ⟨w.heap.size + 1, 2, none⟩ = false := xw1.frz (by simp <;> omega) qFz
  have z_b1 : w.heap.size < w1.heap.size := qB b10
  have z_b2 : w.heap.size + 1 < w1.heap.size := qB b20
  have s_w1 : w.heap.size ≤ w1.heap.size := Xw1.size
  clear xw1
  try simp only [World.size_alloc, World.size_drew] at i7
  try simp only [World.size_alloc, World.size_drew] at i7z
  obtain ⟨afv6, cfv6, rfl⟩ := i7.form
  go_wp2_with fail
  go_ret
  rw [show idxS n F T B false false = numL 0 n B by (have k0 := hc3; unfold idxS fromI toI; simp only [reduceIte, Bool.false_eq_true] <;> (repeat' split) <;> first | rfl | (exfalso; omega))]
  exact ⟨_, rfl, i7.lower (by omega), i7z.lower (by omega), Xw1⟩

set_option maxHeartbeats 1600000 in
theorem indicesOf_c (n F T B : Int) (hf ht : Bool) (w : World) (hn : 0 ≤ n ∧ n ≤ 200) (hsl : sliceB F T B hf ht = true) :
  Calls Try.prog 110 #[.int .i64 n, .agg #[.int .i64 F, .int .i64 T, .int .i64 B, .bool hf, .bool ht]] w (PInts w (idxS n F T B hf ht)) := by
 have hs := sliceB_in hsl
 cases hf <;> cases ht
 ·
  exact indicesOf_ff n F T B w hn hs
 ·
  exact indicesOf_ft n F T B w hn hs
 ·
  exact indicesOf_tf n F T B w hn hs
 ·
  exact indicesOf_tt n F T B w hn hs


end Go.Proofs.Ytonnnjaooifpjaa

/- Walks: sliceDim of the program. -/
namespace Go.Proofs.Ytonnnjaooifpjaa
open Go.RowKit
set_option linter.unusedVariables false
set_option maxRecDepth 100000


theorem mul_bd2s {x y : Int} (h1 : -60 ≤ x) (h2 : x ≤ 60) (h3 : -60 ≤ y) (h4 : y ≤ 60) : -3600 ≤ x * y ∧ x * y ≤ 3600 := by
 by_cases h : 0 ≤ y
 ·
  have := mul_bd (x := y) (t := x) h h4 (show (0 : Int) ≤ 60 by omega) h1 h2
  rw [Int.mul_comm y x] at this; omega
 ·
  have := mul_bd (x := -y) (t := x) (by omega) (by omega) (show (0 : Int) ≤ 60 by omega) h1 h2
  rw [Int.neg_mul, Int.mul_comm y x] at this; omega

set_option maxHeartbeats 6400000 in
theorem sliceDim_c (b1 : Int) (u1 v1 : Value) (s1 t1 : List Int) (D : Nat) (F T B : Int) (hf ht : Bool) (w : World) (l1 m1 : Nat) (h1 : Ints w l1 u1 s1) (k1 : Ints w m1 v1 t1) (hvv : viewB b1 s1 t1 = true) (hDN : D < s1.length) (hsl : sliceB F T B hf ht = true) :
  Calls Try.prog 104 #[.agg #[.int .i64 b1, u1, v1], .int .i64 (D : Int), .agg #[.int .i64 F, .int .i64 T, .int .i64 B, .bool hf, .bool ht]] w (PVW w (cutB b1 s1 t1 D (idxS (s1.getD D 0) F T B hf ht)) (cutS s1 D (idxS (s1.getD D 0) F T B hf ht)) (cutT s1 t1 D (idxS (s1.getD D 0) F T B hf ht))) := by
 obtain ⟨p0, c0, rfl⟩ := h1.form
 obtain ⟨p1, c1, rfl⟩ := k1.form
 obtain ⟨-, hts, -, ht60, -⟩ := viewB_in hvv
 have hsm := view_small hvv
 have hs60 := Lib.hid hsm.2
 have hs4 := hsm.1
 have hDT : D < t1.length := by omega
 have ht4 : t1.length ≤ 4 := by omega
 have hb60 := (viewB_in hvv).2.2.1
 have hne1 : s1 ≠ [] := fun h => by rw [h] at hDN; simp at hDN
 have hne2 : t1 ≠ [] := fun h => by rw [h] at hDT; simp at hDT
 have hx1 : Hid (t1.getD D 0 = t1.getD D 0) := Lib.hid rfl
 replace hne1 := Lib.hid hne1
 replace hne2 := Lib.hid hne2
 replace hsm := Lib.hid hsm
 replace hts := Lib.hid hts
 replace ht60 := Lib.hid ht60
 replace hvv := Lib.hid hvv
 replace hsl := Lib.hid hsl
 go_enter Try.func104, Try.ntmps104
 go_wp2_with fail
 have Lw1 : Ext w (((w.alloc (.cells #[.int .i64 b1, .slice p0 s1.length c0, .slice p1 t1.length c1] 25)).alloc (.cells #[.int .i64 F, .int .i64 T, .int .i64 B, .bool hf, .bool ht] 54)).alloc (.cells #[.int .i64 0, .slice none 0 0, .slice none 0 0] 25)) := qXt
 have Xw1 : Ext w (((w.alloc (.cells #[.int .i64 b1, .slice p0 s1.length c0, .slice p1 t1.length c1] 25)).alloc (.cells #[.int .i64 F, .int .i64 T, .int .i64 B, .bool hf, .bool ht] 54)).alloc (.cells #[.int .i64 0, .slice none 0 0, .slice none 0 0] 25)) := Lw1
 have b10 : (((w.alloc (.cells #[.int .i64 b1, .slice p0 s1.length c0, .slice p1 t1.length c1] 25)).alloc (.cells #[.int .i64 F, .int .i64 T, .int .i64 B, .bool hf, .bool ht] 54)).alloc (.cells #[.int .i64 0, .slice none 0 0, .slice none 0 0] 25)).cell? ⟨w.heap.size, 0, none⟩ = some (.int .i64 b1) := qCl
 have b11 : (((w.alloc (.cells #[.int .i64 b1, .slice p0 s1.length c0, .slice p1 t1.length c1] 25)).alloc (.cells #[.int .i64 F, .int .i64 T, .int .i64 B, .bool hf, .bool ht] 54)).alloc (.cells #[.int .i64 0, .slice none 0 0, .slice none 0 0] 25)).cell? ⟨w.heap.size, 1, none⟩ = some (.slice p0 s1.length c0) := qCl
 have b12 : (((w.alloc (.cells #[.int .i64 b1, .slice p0 s1.length c0, .slice p1 t1.length c1] 25)).alloc (.cells #[.int .i64 F, .int .i64 T, .int .i64 B, .bool hf, .bool ht] 54)).alloc (.cells #[.int .i64 0, .slice none 0 0, .slice none 0 0] 25)).cell? ⟨w.heap.size, 2, none⟩ = some (.slice p1 t1.length c1) := qCl
 have b20 : (((w.alloc (.cells #[.int .i64 b1, .slice p0 s1.length c0, .slice p1 t1.length c1] 25)).alloc (.cells #[.int .i64 F, .int .i64 T, .int .i64 B, .bool hf, .bool ht] 54)).alloc (.cells #[.int .i64 0, .slice none 0 0, .slice none 0 0] 25)).cell? ⟨w.heap.size + 1, 0, none⟩ = some (.int .i64 F) := qCl
 have b21 : (((w.alloc (.cells #[.int .i64 b1, .slice p0 s1.length c0, .slice p1 t1.length c1] 25)).alloc (.cells #[.int .i64 F, .int .i64 T, .int .i64 B, .bool hf, .bool ht] 54)).alloc (.cells #[.int .i64 0, .slice none 0 0, .slice none 0 0] 25)).cell? ⟨w.heap.size + 1, 1, none⟩ = some (.int .i64 T) := qCl
 have b22 : (((w.alloc (.cells #[.int .i64 b1, .slice p0 s1.length c0, .slice p1 t1.length c1] 25)).alloc (.cells #[.int .i64 F, .int .i64 T, .int .i64 B, .bool hf, .bool ht] 54)).alloc (.cells #[.int .i64 0, .slice none 0 0, .slice none 0 0] 25)).cell? ⟨w.heap.size + 1, 2, none⟩ = some (.int .i64 B) := qCl
 have b23 : (((w.alloc (.cells #[.int .i64 b1, .slice p0 s1.length c0, .slice p1 t1.length c1] 25)).alloc (.cells #[.int .i64 F, .int .i64 T, .int .i64 B, .bool hf, .bool ht] 54)).alloc (.cells #[.int .i64 0, .slice none 0 0, .slice none 0 0] 25)).cell? ⟨w.heap.size + 1, 3, none⟩ = some (.bool hf) := qCl
 have b24 : (((w.alloc (.cells #[.int .i64 b1, .slice p0 s1.length c0, .slice p1 t1.length c1] 25)).alloc (.cells #[.int .i64 F, .int .i64 T, .int .i64 B, .bool hf, .bool ht] 54)).alloc (.cells #[.int .i64 0, .slice none 0 0, .slice none 0 0] 25)).cell? ⟨w.heap.size + 1, 4, none⟩ = some (.bool ht) := qCl
 have b30 : (((w.alloc (.cells #[.int .i64 b1, .slice p0 s1.length c0, .slice p1 t1.length c1] 25)).alloc (.cells #[.int .i64 F, .int .i64 T, .int .i64 B, .bool hf, .bool ht] 54)).alloc (.cells #[.int .i64 0, .slice none 0 0, .slice none 0 0] 25)).cell? ⟨w.heap.size + 1 + 1, 0, none⟩ = some (.int .i64 0) := qCl
 have b31 : (((w.alloc (.cells #[.int .i64 b1, .slice p0 s1.length c0, .slice p1 t1.length c1] 25)).alloc (.cells #[.int .i64 F, .int .i64 T, .int .i64 B, .bool hf, .bool ht] 54)).alloc (.cells #[.int .i64 0, .slice none 0 0, .slice none 0 0] 25)).cell? ⟨w.heap.size + 1 + 1, 1, none⟩ = some (.slice none 0 0) := qCl
 have b32 : (((w.alloc (.cells #[.int .i64 b1, .slice p0 s1.length c0, .slice p1 t1.length c1] 25)).alloc (.cells #[.int .i64 F, .int .i64 T, .int .i64 B, .bool hf, .bool ht] 54)).alloc (.cells #[.int .i64 0, .slice none 0 0, .slice none 0 0] 25)).cell? ⟨w.heap.size + 1 + 1, 2, none⟩ = some (.slice none 0 0) := qCl
 have f_b30 : (((w.alloc (.cells #[.int .i64 b1, .slice p0 s1.length c0, .slice p1 t1.length c1] 25)).alloc (.cells #[.int .i64 F, .int .i64 T, .int .i64 B, .bool hf, .bool ht] 54)).alloc (.cells #[.int .i64 0, .slice none 0 0, .slice none 0 0] 25)).frozen? ⟨w.heap.size + 1 + 1, 0, none⟩ = false := qFz
 have f_b31 : (((w.alloc (.cells #[.int .i64 b1, .slice p0 s1.length c0, .slice p1 t1.length c1] 25)).alloc (.cells #[.int .i64 F, .int .i64 T, .int .i64 B, .bool hf, .bool ht] 54)).alloc (.cells #[.int .i64 0, .slice none 0 0, .slice none 0 0] 25)).frozen? ⟨w.heap.size + 1 + 1, 1, none⟩ = false := qFz
 have f_b32 : (((w.alloc (.cells #[.int .i64 b1, .slice p0 s1.length c0, .slice p1 t1.length c1] 25)).alloc (.cells #[.int .i64 F, .int .i64 T, .int .i64 B, .bool hf, .bool ht] 54)).alloc (.cells #[.int .i64 0, .slice none 0 0, .slice none 0 0] 25)).frozen? ⟨w.heap.size + 1 + 1, 2, none⟩ = false := qFz
 have z_b1 : w.heap.size < (((w.alloc (.cells #[.int .i64 b1, .slice p0 s1.length c0, .slice p1 t1.length c1] 25)).alloc (.cells #[.int .i64 F, .int .i64 T, .int .i64 B, .bool hf, .bool ht] 54)).alloc (.cells #[.int .i64 0, .slice none 0 0, .slice none 0 0] 25)).heap.size := qB b10
 have z_b2 : w.heap.size + 1 < (((w.alloc (.cells #[.int .i64 b1, .slice p0 s1.length c0, .slice p1 t1.length c1] 25)).alloc (.cells #[.int .i64 F, .int .i64 T, .int .i64 B, .bool hf, .bool ht] 54)).alloc (.cells #[.int .i64 0, .slice none 0 0, .slice none 0 0] 25)).heap.size := qB b20
 have z_b3 : w.heap.size + 1 + 1 < (((w.alloc (.cells #[.int .i64 b1, .slice p0 s1.length c0, .slice p1 t1.length c1] 25)).alloc (.cells #[.int .i64 F, .int .i64 T, .int .i64 B, .bool hf, .bool ht] 54)).alloc (.cells #[.int .i64 0, .slice none 0 0, .slice none 0 0] 25)).heap.size := qB b30
 have s_w1 : w.heap.size ≤ (((w.alloc (.cells #[.int .i64 b1, .slice p0 s1.length c0, .slice p1 t1.length c1] 25)).alloc (.cells #[.int .i64 F, .int .i64 T, .int .i64 B, .bool hf, .bool ht] 54)).alloc (.cells #[.int .i64 0, .slice none 0 0, .slice none 0 0] 25)).heap.size := Xw1.size
 generalize ((w.alloc (.cells #[.int .i64 b1, .slice p0 s1.length c0, .slice p1 t1.length c1] 25)).alloc (.cells #[.int .i64 F, .int .i64 T, .int .i64 B, .bool hf, .bool ht] 54)).alloc (.cells #[.int .i64 0, .slice none 0 0, .slice none 0 0] 25) = w1 at *
 have hN_e6 : D < s1.length := (by first | exact hDN | (simp only [List.length_set]; exact hDN))
 have hI_e6 : (D : Int) < (s1.length : Int) := by omega
 obtain ⟨bl4, ol5, rfl, e60⟩ := h1.at D (by first | exact hDN | (simp only [List.length_set]; exact hDN))
 have y_e6 : bl4 < w.heap.size := qB e60
 replace e60 := Xw1.cell e60
 obtain ⟨v7, hv7⟩ : ∃ v, s1.getD D 0 = v := ⟨_, rfl⟩
 rw [hv7] at e60
 replace hv7 := Lib.hid hv7
 have z_e6 : bl4 < w1.heap.size := qB e60
 have h60v7 := hs60.out _ (getD_mem hDN)
 obtain ⟨hcv, hcl⟩ := cut_view (a := fromI v7 F B hf) (e := toI v7 T B ht) hvv.out hDN (sliceB_in hsl.out).2.2.2 (by rw [hv7.out]; exact idxS_in (by rw [hv7.out] at h60v7; omega) (sliceB_in hsl.out).2.2.2)
 have hLin := idxS_in (n := v7) (F := F) (T := T) (hf := hf) (ht := ht) (by rw [hv7.out] at h60v7; omega) (sliceB_in hsl.out).2.2.2
 rw [hv7.out] at h60v7
 obtain ⟨L, hL⟩ : ∃ L, idxS v7 F T B hf ht = L := ⟨_, rfl⟩
 rw [show numL (fromI v7 F B hf) (toI v7 T B ht) B = L from hL] at hcl
 rw [hL] at hLin
 clear hcv
 replace hL := Lib.hid hL
 replace hLin := Lib.hid hLin
 refine wp_region_tail (S := fun w' => w'.cell? ⟨w.heap.size, 0, none⟩ = some (.int .i64 b1) ∧ w'.cell? ⟨w.heap.size, 1, none⟩ = some (.slice (some ⟨bl4, ol5, none⟩) s1.length c0) ∧ w'.cell? ⟨w.heap.size, 2, none⟩ = some (.slice p1 t1.length c1) ∧ w'.cell? ⟨w.heap.size + 1, 0, none⟩ = some (.int .i64 F) ∧ w'.cell? ⟨w.heap.size + 1, 1, none⟩ = some (.int .i64 T) ∧ w'.cell? ⟨w.heap.size + 1, 2, none⟩ = some (.int .i64 B) ∧ w'.cell? ⟨w.heap.size + 1, 3, none⟩ = some (.bool hf) ∧ w'.cell? ⟨w.heap.size + 1, 4, none⟩ = some (.bool ht) ∧ w'.cell? ⟨w.heap.size + 1 + 1, 0, none⟩ = some (.int .i64 0) ∧ w'.cell? ⟨w.heap.size + 1 + 1, 1, none⟩ = some (.slice none 0 0) ∧ w'.cell? ⟨w.heap.size + 1 + 1, 2, none⟩ = some (.slice none 0 0) ∧ w'.cell? ⟨bl4, ol5 + D, none⟩ = some (.int .i64 v7)) (fun i => decide (8 ≤ i)) qKr ⟨b10, b11, b12, b20, b21, b22, b23, b24, b30, b31, b32, e60⟩ (fun hHeld => ?_)
 refine wpTail_take (i := 0) (v := ?_) rfl qKr qKr qKr rfl qKr (fun _ _ _ h => h) (Or.inl ⟨by rfl, ?_⟩) (by assumption) ?_
 rotate_left
 ·
  (intro w hSw; (try dsimp only at hSw); go_simp; try with_reducible rfl)
 try simp only [Act.put, qA1, qA2, qA3, qA4, qA5, qA6]
 refine wpTail_take (i := 1) (v := ?_) rfl qKr qKr qKr rfl qKr (fun _ _ _ h => h) (Or.inl ⟨by rfl, ?_⟩) (by assumption) ?_
 rotate_left
 ·
  (intro w hSw; (try dsimp only at hSw); go_simp; try with_reducible rfl)
 try simp only [Act.put, qA1, qA2, qA3, qA4, qA5, qA6]
 refine wpTail_take (i := 2) (v := ?_) rfl qKr qKr qKr rfl qKr (fun _ _ _ h => h) (Or.inl ⟨by rfl, ?_⟩) (by assumption) ?_
 rotate_left
 ·
  (intro w hSw; (try dsimp only at hSw); go_simp; try with_reducible rfl)
 try simp only [Act.put, qA1, qA2, qA3, qA4, qA5, qA6]
 refine wpTail_take (i := 3) (v := ?_) rfl qKr qKr qKr rfl qKr (fun _ _ _ h => h) (Or.inl ⟨by rfl, ?_⟩) (by assumption) ?_
 rotate_left
 ·
  (intro w hSw; (try dsimp only at hSw); go_simp; try with_reducible rfl)
 try simp only [Act.put, qA1, qA2, qA3, qA4, qA5, qA6]
 refine wpTail_take (i := 4) (v := ?_) rfl qKr qKr qKr rfl qKr (fun _ _ _ h => h) (Or.inl ⟨by rfl, ?_⟩) (by assumption) ?_
 rotate_left
 ·
  (intro w hSw; (try dsimp only at hSw); go_simp; try with_reducible rfl)
 try simp only [Act.put, qA1, qA2, qA3, qA4, qA5, qA6]
 refine wpTail_take (i := 5) (v := ?_) rfl qKr qKr qKr rfl qKr (fun _ _ _ h => h) (Or.inl ⟨by rfl, ?_⟩) (by assumption) ?_
 rotate_left
 ·
  (intro w hSw; (try dsimp only at hSw); go_simp; try with_reducible rfl)
 try simp only [Act.put, qA1, qA2, qA3, qA4, qA5, qA6]
 refine wpTail_one (i := 6) qKr rfl rfl (fun K hK => ?_)
 try simp only [Act.put, qA1, qA2, qA3, qA4, qA5, qA6]
 go_simp
 refine (pi_eq hL.out (indicesOf_c v7 F T B hf ht _ (by omega) hsl.out)).mono ?_
 rintro e w2 ⟨fv11, rfl, i12, -, xw2⟩
 have Lw2 : Ext w1 w2 := Ext.trans qXt xw2
 have Xw2 : Ext w w2 := Xw1.trans Lw2
 replace b10 := Lw2.cell b10
 replace b11 := Lw2.cell b11
 replace b12 := Lw2.cell b12
 replace b20 := Lw2.cell b20
 replace b21 := Lw2.cell b21
 replace b22 := Lw2.cell b22
 replace b23 := Lw2.cell b23
 replace b24 := Lw2.cell b24
 replace b30 := Lw2.cell b30
 replace b31 := Lw2.cell b31
 replace b32 := Lw2.cell b32
 replace f_b30 := Lw2.frz z_b3 f_b30
 replace f_b31 := Lw2.frz z_b3 f_b31
 replace f_b32 := Lw2.frz z_b3 f_b32
 replace e60 := Lw2.cell e60
 have z_b1 : w.heap.size < w2.heap.size := qB b10
 have z_b2 : w.heap.size + 1 < w2.heap.size := qB b20
 have z_b3 : w.heap.size + 1 + 1 < w2.heap.size := qB b30
 have z_e6 : bl4 < w2.heap.size := qB e60
 have s_w2 : w.heap.size ≤ w2.heap.size := Xw2.size
 clear xw2
 try simp only [World.size_alloc, World.size_drew] at i12
 obtain ⟨afv11, cfv11, rfl⟩ := i12.form
 refine hK.out _ _ ⟨b10, b11, b12, b20, b21, b22, b23, b24, b30, b31, b32, e60⟩ (fun hHeld => ?_)
 clear hK K
 try simp only [Act.put, qA1, qA2, qA3, qA4, qA5, qA6]
 refine wpTail_take (i := 7) (v := ?_) rfl qKr qKr qKr rfl qKr (fun _ _ _ h => h) (Or.inl ⟨by rfl, ?_⟩) (by assumption) ?_
 rotate_left
 ·
  (intro w hSw; (try dsimp only at hSw); go_simp; try with_reducible rfl)
 try simp only [Act.put, qA1, qA2, qA3, qA4, qA5, qA6]
 refine wpTail_done qKr ?_ _
 clear hHeld 
 go_wp2_with fail
 have Q13_b10 := Lib.hid b10
 have Q13_b11 := Lib.hid b11
 have Q13_b12 := Lib.hid b12
 have Q13_zb1 := z_b1
 have Q13_b20 := Lib.hid b20
 have Q13_b21 := Lib.hid b21
 have Q13_b22 := Lib.hid b22
 have Q13_b23 := Lib.hid b23
 have Q13_b24 := Lib.hid b24
 have Q13_zb2 := z_b2
 have Q13_b30 := Lib.hid b30
 have Q13_f_b30 := Lib.hid f_b30
 have Q13_b31 := Lib.hid b31
 have Q13_f_b31 := Lib.hid f_b31
 have Q13_b32 := Lib.hid b32
 have Q13_f_b32 := Lib.hid f_b32
 have Q13_zb3 := z_b3
 have Q13_e60 := Lib.hid e60
 have Q13_ze6 := z_e6
 have Q13_i12 := Lib.hid i12
 have BL14 : Ext w2 w2 := Ext.refl _
 refine (copyView_c b1 (.slice (some ⟨bl4, ol5, none⟩) s1.length c0) (.slice p1 t1.length c1) s1 t1 _ _ _ (h1.ext (Xw2.trans qXt)) (k1.ext (Xw2.trans qXt))).mono ?_
 rintro e w3 ⟨fv15u, fv15v, rfl, i16u, i16v, i16uz, i16vz, i16s, xw3⟩
 have Lw3 : Ext w2 w3 := Ext.trans qXt xw3
 have Xw3 : Ext w w3 := Xw2.trans Lw3
 replace b10 := Lw3.cell b10
 replace b11 := Lw3.cell b11
 replace b12 := Lw3.cell b12
 replace b20 := Lw3.cell b20
 replace b21 := Lw3.cell b21
 replace b22 := Lw3.cell b22
 replace b23 := Lw3.cell b23
 replace b24 := Lw3.cell b24
 replace b30 := Lw3.cell b30
 replace b31 := Lw3.cell b31
 replace b32 := Lw3.cell b32
 replace f_b30 := Lw3.frz z_b3 f_b30
 replace f_b31 := Lw3.frz z_b3 f_b31
 replace f_b32 := Lw3.frz z_b3 f_b32
 replace e60 := Lw3.cell e60
 have z_b1 : w.heap.size < w3.heap.size := qB b10
 have z_b2 : w.heap.size + 1 < w3.heap.size := qB b20
 have z_b3 : w.heap.size + 1 + 1 < w3.heap.size := qB b30
 have z_e6 : bl4 < w3.heap.size := qB e60
 replace i12 := i12.ext Lw3
 have s_w3 : w.heap.size ≤ w3.heap.size := Xw3.size
 have BL14_w3 : Ext w2 w3 := BL14.trans Lw3
 clear xw3
 obtain ⟨afv15u, cfv15u, rfl⟩ := i16u.form
 obtain ⟨afv15v, cfv15v, rfl⟩ := i16v.form
 have O17 := i16uz.ofNe hne1.out
 obtain ⟨gr19, rr21, hvgr19, Ggr19, Ggr19'⟩ := O17.row hne1.out
 cases hvgr19
 have O18 := i16vz.ofNe hne2.out
 obtain ⟨gr20, rr22, hvgr20, Ggr20, Ggr20'⟩ := O18.row hne2.out
 cases hvgr20
 have hggr19 : gr19 ≠ gr20 := fun h => i16s hne1.out hne2.out (by rw [h]; rfl)
 clear i16u i16uz i16v i16vz i16s
 have Q23_b10 := Lib.hid b10
 have Q23_b11 := Lib.hid b11
 have Q23_b12 := Lib.hid b12
 have Q23_zb1 := z_b1
 have Q23_b20 := Lib.hid b20
 have Q23_b21 := Lib.hid b21
 have Q23_b22 := Lib.hid b22
 have Q23_b23 := Lib.hid b23
 have Q23_b24 := Lib.hid b24
 have Q23_zb2 := z_b2
 have Q23_b30 := Lib.hid b30
 have Q23_f_b30 := Lib.hid f_b30
 have Q23_b31 := Lib.hid b31
 have Q23_f_b31 := Lib.hid f_b31
 have Q23_b32 := Lib.hid b32
 have Q23_f_b32 := Lib.hid f_b32
 have Q23_zb3 := z_b3
 have Q23_e60 := Lib.hid e60
 have Q23_ze6 := z_e6
 have Q23_i12 := Lib.hid i12
 have Q23_O17 := Lib.hid O17
 have Q23_O18 := Lib.hid O18
 have BL24 : Ext w3 w3 := Ext.refl _
 go_upto_region 3 with fail
 have Lw4 : Ext w3 (w3.alloc (.cells #[.int .i64 b1, .slice (some ⟨gr19, 0, none⟩) s1.length cfv15u, .slice (some ⟨gr20, 0, none⟩) t1.length cfv15v] 25)) := qXt
 have Xw4 : Ext w (w3.alloc (.cells #[.int .i64 b1, .slice (some ⟨gr19, 0, none⟩) s1.length cfv15u, .slice (some ⟨gr20, 0, none⟩) t1.length cfv15v] 25)) := Xw3.trans Lw4
 replace b10 := Lw4.cell b10
 replace b11 := Lw4.cell b11
 replace b12 := Lw4.cell b12
 replace b20 := Lw4.cell b20
 replace b21 := Lw4.cell b21
 replace b22 := Lw4.cell b22
 replace b23 := Lw4.cell b23
 replace b24 := Lw4.cell b24
 replace b30 := Lw4.cell b30
 replace b31 := Lw4.cell b31
 replace b32 := Lw4.cell b32
 replace f_b30 := Lw4.frz z_b3 f_b30
 replace f_b31 := Lw4.frz z_b3 f_b31
 replace f_b32 := Lw4.frz z_b3 f_b32
 replace e60 := Lw4.cell e60
 have b250 : (w3.alloc (.cells #[.int .i64 b1, .slice (some ⟨gr19, 0, none⟩) s1.length cfv15u, .slice (some ⟨gr20, 0, none⟩) t1.length cfv15v] 25)).cell? ⟨w3.heap.size, 0, none⟩ = some (.int .i64 b1) := qCl
 have b251 : (w3.alloc (.cells #[.int .i64 b1, .slice (some ⟨gr19, 0, none⟩) s1.length cfv15u, .slice (some ⟨gr20, 0, none⟩) t1.length cfv15v] 25)).cell? ⟨w3.heap.size, 1, none⟩ = some (.slice (some ⟨gr19, 0, none⟩) s1.length cfv15u) := qCl
 have b252 : (w3.alloc (.cells #[.int .i64 b1, .slice (some ⟨gr19, 0, none⟩) s1.length cfv15u, .slice (some ⟨gr20, 0, none⟩) t1.length cfv15v] 25)).cell? ⟨w3.heap.size, 2, none⟩ = some (.slice (some ⟨gr20, 0, none⟩) t1.length cfv15v) := qCl
 have f_b250 : (w3.alloc (.cells #[.int .i64 b1, .slice (some ⟨gr19, 0, none⟩) s1.length cfv15u, .slice (some ⟨gr20, 0, none⟩) t1.length cfv15v] 25)).frozen? ⟨w3.heap.size, 0, none⟩ = false := qFz
 have f_b251 : (w3.alloc (.cells #[.int .i64 b1, .slice (some ⟨gr19, 0, none⟩) s1.length cfv15u, .slice (some ⟨gr20, 0, none⟩) t1.length cfv15v] 25)).frozen? ⟨w3.heap.size, 1, none⟩ = false := qFz
 have f_b252 : (w3.alloc (.cells #[.int .i64 b1, .slice (some ⟨gr19, 0, none⟩) s1.length cfv15u, .slice (some ⟨gr20, 0, none⟩) t1.length cfv15v] 25)).frozen? ⟨w3.heap.size, 2, none⟩ = false := qFz
 have z_b1 : w.heap.size < (w3.alloc (.cells #[.int .i64 b1, .slice (some ⟨gr19, 0, none⟩) s1.length cfv15u, .slice (some ⟨gr20, 0, none⟩) t1.length cfv15v] 25)).heap.size := qB b10
 have z_b2 : w.heap.size + 1 < (w3.alloc (.cells #[.int .i64 b1, .slice (some ⟨gr19, 0, none⟩) s1.length cfv15u, .slice (some ⟨gr20, 0, none⟩) t1.length cfv15v] 25)).heap.size := qB b20
 have z_b3 : w.heap.size + 1 + 1 < (w3.alloc (.cells #[.int .i64 b1, .slice (some ⟨gr19, 0, none⟩) s1.length cfv15u, .slice (some ⟨gr20, 0, none⟩) t1.length cfv15v] 25)).heap.size := qB b30
 have z_e6 : bl4 < (w3.alloc (.cells #[.int .i64 b1, .slice (some ⟨gr19, 0, none⟩) s1.length cfv15u, .slice (some ⟨gr20, 0, none⟩) t1.length cfv15v] 25)).heap.size := qB e60
 have z_b25 : w3.heap.size < (w3.alloc (.cells #[.int .i64 b1, .slice (some ⟨gr19, 0, none⟩) s1.length cfv15u, .slice (some ⟨gr20, 0, none⟩) t1.length cfv15v] 25)).heap.size := qB b250
 replace i12 := i12.ext Lw4
 replace O17 := O17.ext Lw4
 replace O18 := O18.ext Lw4
 have s_w4 : w.heap.size ≤ (w3.alloc (.cells #[.int .i64 b1, .slice (some ⟨gr19, 0, none⟩) s1.length cfv15u, .slice (some ⟨gr20, 0, none⟩) t1.length cfv15v] 25)).heap.size := Xw4.size
 have BL14_w4 : Ext w2 (w3.alloc (.cells #[.int .i64 b1, .slice (some ⟨gr19, 0, none⟩) s1.length cfv15u, .slice (some ⟨gr20, 0, none⟩) t1.length cfv15v] 25)) := BL14_w3.trans Lw4
 have BL24_w4 : Ext w3 (w3.alloc (.cells #[.int .i64 b1, .slice (some ⟨gr19, 0, none⟩) s1.length cfv15u, .slice (some ⟨gr20, 0, none⟩) t1.length cfv15v] 25)) := BL24.trans Lw4
 generalize w3.alloc (.cells #[.int .i64 b1, .slice (some ⟨gr19, 0, none⟩) s1.length cfv15u, .slice (some ⟨gr20, 0, none⟩) t1.length cfv15v] 25) = w4 at *
 have A26 := O17.cell D (by first | exact hDN | (simp only [List.length_set]; exact hDN))
 obtain ⟨A26a, A26b⟩ := A26
 go_upto_region 4 with fail
 clear e60 z_e6
 have Kw5 : Chg (gr19) (gr19 + 1) w4 (w4.setCell ⟨gr19, D, none⟩ (.int .i64 (L.length : Int))) := (Chg.setCell (p := ⟨gr19, D, none⟩) (Chg.refl (gr19) (gr19 + 1) _) (Nat.le_refl _) (Nat.lt_succ_self _) (.int .i64 (L.length : Int)))
 have Xw5 : Ext w (w4.setCell ⟨gr19, D, none⟩ (.int .i64 (L.length : Int))) := (Ext.setCell (p := ⟨gr19, D, none⟩) Xw4 qSo (.int .i64 (L.length : Int)))
 have BL14_w5 : Ext w2 (w4.setCell ⟨gr19, D, none⟩ (.int .i64 (L.length : Int))) := (Ext.setCell (p := ⟨gr19, D, none⟩) BL14_w4 qSo (.int .i64 (L.length : Int)))
 replace b10 := BL14_w5.cell Q13_b10.out
 replace b11 := BL14_w5.cell Q13_b11.out
 replace b12 := BL14_w5.cell Q13_b12.out
 replace b20 := BL14_w5.cell Q13_b20.out
 replace b21 := BL14_w5.cell Q13_b21.out
 replace b22 := BL14_w5.cell Q13_b22.out
 replace b23 := BL14_w5.cell Q13_b23.out
 replace b24 := BL14_w5.cell Q13_b24.out
 replace b30 := BL14_w5.cell Q13_b30.out
 replace f_b30 := BL14_w5.frz Q13_zb3 Q13_f_b30.out
 replace b31 := BL14_w5.cell Q13_b31.out
 replace f_b31 := BL14_w5.frz Q13_zb3 Q13_f_b31.out
 replace b32 := BL14_w5.cell Q13_b32.out
 replace f_b32 := BL14_w5.frz Q13_zb3 Q13_f_b32.out
 replace b250 := Kw5.cell (by omega) b250
 replace f_b250 := Kw5.frzO (by omega) z_b25 f_b250
 replace b251 := Kw5.cell (by omega) b251
 replace f_b251 := Kw5.frzO (by omega) z_b25 f_b251
 replace b252 := Kw5.cell (by omega) b252
 replace f_b252 := Kw5.frzO (by omega) z_b25 f_b252
 replace i12 := (Q13_i12.out).ext BL14_w5
 have n_O17 := O17.set D ((L.length : Int)) (by first | omega | (simp; omega) | (rw [putUp_len]; simp; omega) | (rw [addUp_len]; omega))
 replace O17 := n_O17
 clear n_O17
 replace O18 := O18.chgN Kw5 (by omega)
 clear Kw5
 have z_b1 : w.heap.size < (w4.setCell ⟨gr19, D, none⟩ (.int .i64 (L.length : Int))).heap.size := qB b10
 have z_b2 : w.heap.size + 1 < (w4.setCell ⟨gr19, D, none⟩ (.int .i64 (L.length : Int))).heap.size := qB b20
 have z_b3 : w.heap.size + 1 + 1 < (w4.setCell ⟨gr19, D, none⟩ (.int .i64 (L.length : Int))).heap.size := qB b30
 have z_b25 : w3.heap.size < (w4.setCell ⟨gr19, D, none⟩ (.int .i64 (L.length : Int))).heap.size := qB b250
 have s_w5 : w.heap.size ≤ (w4.setCell ⟨gr19, D, none⟩ (.int .i64 (L.length : Int))).heap.size := Xw5.size
 generalize (w4.setCell ⟨gr19, D, none⟩ (.int .i64 (L.length : Int))) = w5 at *
 clear A26a A26b
 have A27 := O18.cell D (by first | exact hDT | (simp only [List.length_set]; exact hDT))
 obtain ⟨A27a, A27b⟩ := A27
 by_cases hc28 : (0 : Int) < (L.length : Int)
 ·
  go_wp2_with fail
  have Kw6 : Chg (gr20) (gr20 + 1) w5 (w5.setCell ⟨gr20, D, none⟩ (.int .i64 0)) := (Chg.setCell (p := ⟨gr20, D, none⟩) (Chg.refl (gr20) (gr20 + 1) _) (Nat.le_refl _) (Nat.lt_succ_self _) (.int .i64 0))
  have Xw6 : Ext w (w5.setCell ⟨gr20, D, none⟩ (.int .i64 0)) := (Ext.setCell (p := ⟨gr20, D, none⟩) Xw5 qSo (.int .i64 0))
  have BL14_w6 : Ext w2 (w5.setCell ⟨gr20, D, none⟩ (.int .i64 0)) := (Ext.setCell (p := ⟨gr20, D, none⟩) BL14_w5 qSo (.int .i64 0))
  replace b10 := BL14_w6.cell Q13_b10.out
  replace b11 := BL14_w6.cell Q13_b11.out
  replace b12 := BL14_w6.cell Q13_b12.out
  replace b20 := BL14_w6.cell Q13_b20.out
  replace b21 := BL14_w6.cell Q13_b21.out
  replace b22 := BL14_w6.cell Q13_b22.out
  replace b23 := BL14_w6.cell Q13_b23.out
  replace b24 := BL14_w6.cell Q13_b24.out
  replace b30 := BL14_w6.cell Q13_b30.out
  replace f_b30 := BL14_w6.frz Q13_zb3 Q13_f_b30.out
  replace b31 := BL14_w6.cell Q13_b31.out
  replace f_b31 := BL14_w6.frz Q13_zb3 Q13_f_b31.out
  replace b32 := BL14_w6.cell Q13_b32.out
  replace f_b32 := BL14_w6.frz Q13_zb3 Q13_f_b32.out
  replace b250 := Kw6.cell (by omega) b250
  replace f_b250 := Kw6.frzO (by omega) z_b25 f_b250
  replace b251 := Kw6.cell (by omega) b251
  replace f_b251 := Kw6.frzO (by omega) z_b25 f_b251
  replace b252 := Kw6.cell (by omega) b252
  replace f_b252 := Kw6.frzO (by omega) z_b25 f_b252
  replace i12 := (Q13_i12.out).ext BL14_w6
  replace O17 := O17.chgN Kw6 (by omega)
  have n_O18 := O18.set D (0) (by first | omega | (simp; omega) | (rw [putUp_len]; simp; omega) | (rw [addUp_len]; omega))
  replace O18 := n_O18
  clear n_O18
  clear Kw6
  have z_b1 : w.heap.size < (w5.setCell ⟨gr20, D, none⟩ (.int .i64 0)).heap.size := qB b10
  have z_b2 : w.heap.size + 1 < (w5.setCell ⟨gr20, D, none⟩ (.int .i64 0)).heap.size := qB b20
  have z_b3 : w.heap.size + 1 + 1 < (w5.setCell ⟨gr20, D, none⟩ (.int .i64 0)).heap.size := qB b30
  have z_b25 : w3.heap.size < (w5.setCell ⟨gr20, D, none⟩ (.int .i64 0)).heap.size := qB b250
  have s_w6 : w.heap.size ≤ (w5.setCell ⟨gr20, D, none⟩ (.int .i64 0)).heap.size := Xw6.size
  generalize (w5.setCell ⟨gr20, D, none⟩ (.int .i64 0)) = w6 at *
  clear A27a A27b
  have hN_e31 : D < t1.length := (by first | exact hDT | (simp only [List.length_set]; exact hDT))
  have hI_e31 : (D : Int) < (t1.length : Int) := by omega
  obtain ⟨bl29, ol30, rfl, e310⟩ := k1.at D (by first | exact hDT | (simp only [List.length_set]; exact hDT))
  have y_e31 : bl29 < w.heap.size := qB e310
  replace e310 := Xw6.cell e310
  obtain ⟨v32, hv32⟩ : ∃ v, t1.getD D 0 = v := ⟨_, rfl⟩
  rw [hv32] at e310
  replace hv32 := Lib.hid hv32
  have z_e31 : bl29 < w6.heap.size := qB e310
  have h60v32 := ht60.out _ (getD_mem hDT)
  rw [hv32.out] at h60v32
  have hx1 := hv32
  have hI_e35 : (0 : Int) < (L.length : Int) := by have hB7 : 0 < L.length := (by omega); omega
  obtain ⟨bl33, ol34, rfl, e350⟩ := i12.at 0 (by omega)
  rw [Nat.add_zero] at e350
  obtain ⟨v36, hv36⟩ : ∃ v, L.getD 0 0 = v := ⟨_, rfl⟩
  rw [hv36] at e350
  replace hv36 := Lib.hid hv36
  have y_e35 : bl33 < w6.heap.size := qB e350
  have z_e35 := y_e35
  have h60v36 := hLin.out _ (getD_mem (show 0 < L.length by omega))
  rw [hv36.out] at h60v36
  have hL0 := hv36
  have hmuv36 := mul_bd (x := v36) (t := v32) (by omega) (by omega) (show (0 : Int) ≤ 60 by omega) h60v32.1 h60v32.2
  rw [Int.mul_comm v36 v32] at hmuv36
  refine wp_region_tail (S := fun w' => w'.cell? ⟨w.heap.size, 0, none⟩ = some (.int .i64 b1) ∧ w'.cell? ⟨w.heap.size, 1, none⟩ = some (.slice (some ⟨bl4, ol5, none⟩) s1.length c0) ∧ w'.cell? ⟨w.heap.size, 2, none⟩ = some (.slice (some ⟨bl29, ol30, none⟩) t1.length c1) ∧ w'.cell? ⟨w.heap.size + 1, 0, none⟩ = some (.int .i64 F) ∧ w'.cell? ⟨w.heap.size + 1, 1, none⟩ = some (.int .i64 T) ∧ w'.cell? ⟨w.heap.size + 1, 2, none⟩ = some (.int .i64 B) ∧ w'.cell? ⟨w.heap.size + 1, 3, none⟩ = some (.bool hf) ∧ w'.cell? ⟨w.heap.size + 1, 4, none⟩ = some (.bool ht) ∧ w'.cell? ⟨w.heap.size + 1 + 1, 0, none⟩ = some (.int .i64 0) ∧ w'.cell? ⟨w.heap.size + 1 + 1, 1, none⟩ = some (.slice none 0 0) ∧ w'.cell? ⟨w.heap.size + 1 + 1, 2, none⟩ = some (.slice none 0 0) ∧ w'.cell? ⟨w3.heap.size, 0, none⟩ = some (.int .i64 b1) ∧ w'.cell? ⟨w3.heap.size, 1, none⟩ = some (.slice (some ⟨gr19, 0, none⟩) s1.length cfv15u) ∧ w'.cell? ⟨w3.heap.size, 2, none⟩ = some (.slice (some ⟨gr20, 0, none⟩) t1.length cfv15v) ∧ w'.cell? ⟨bl29, ol30 + D, none⟩ = some (.int .i64 v32) ∧ w'.cell? ⟨bl33, ol34, none⟩ = some (.int .i64 v36)) (fun i => decide (13 ≤ i)) qKr ⟨b10, b11, b12, b20, b21, b22, b23, b24, b30, b31, b32, b250, b251, b252, e310, e350⟩ (fun hHeld => ?_)
  refine wpTail_take (i := 0) (v := ?_) rfl qKr qKr qKr rfl qKr (fun _ _ _ h => h) (Or.inl ⟨by rfl, ?_⟩) (by assumption) ?_
  rotate_left
  ·
   (intro w hSw; (try dsimp only at hSw); go_simp; try with_reducible rfl)
  try simp only [Act.put, qA1, qA2, qA3, qA4, qA5, qA6]
  refine wpTail_take (i := 1) (v := ?_) rfl qKr qKr qKr rfl qKr (fun _ _ _ h => h) (Or.inl ⟨by rfl, ?_⟩) (by assumption) ?_
  rotate_left
  ·
   (intro w hSw; (try dsimp only at hSw); go_simp; try with_reducible rfl)
  try simp only [Act.put, qA1, qA2, qA3, qA4, qA5, qA6]
  refine wpTail_take (i := 2) (v := ?_) rfl qKr qKr qKr rfl qKr (fun _ _ _ h => h) (Or.inl ⟨by rfl, ?_⟩) (by assumption) ?_
  rotate_left
  ·
   (intro w hSw; (try dsimp only at hSw); go_simp; try with_reducible rfl)
  try simp only [Act.put, qA1, qA2, qA3, qA4, qA5, qA6]
  refine wpTail_take (i := 3) (v := ?_) rfl qKr qKr qKr rfl qKr (fun _ _ _ h => h) (Or.inl ⟨by rfl, ?_⟩) (by assumption) ?_
  rotate_left
  ·
   (intro w hSw; (try dsimp only at hSw); go_simp; try with_reducible rfl)
  try simp only [Act.put, qA1, qA2, qA3, qA4, qA5, qA6]
  refine wpTail_take (i := 4) (v := ?_) rfl qKr qKr qKr rfl qKr (fun _ _ _ h => h) (Or.inl ⟨by rfl, ?_⟩) (by assumption) ?_
  rotate_left
  ·
   (intro w hSw; (try dsimp only at hSw); go_simp; try with_reducible rfl)
  try simp only [Act.put, qA1, qA2, qA3, qA4, qA5, qA6]
  refine wpTail_take (i := 5) (v := ?_) rfl qKr qKr qKr rfl qKr (fun _ _ _ h => h) (Or.inl ⟨by rfl, ?_⟩) (by assumption) ?_
  rotate_left
  ·
   (intro w hSw; (try dsimp only at hSw); go_simp; try with_reducible rfl)
  try simp only [Act.put, qA1, qA2, qA3, qA4, qA5, qA6]
  refine wpTail_take (i := 6) (v := ?_) rfl qKr qKr qKr rfl qKr (fun _ _ _ h => h) (Or.inl ⟨by rfl, ?_⟩) (by assumption) ?_
  rotate_left
  ·
   (intro w hSw; (try dsimp only at hSw); go_simp; try with_reducible rfl)
  try simp only [Act.put, qA1, qA2, qA3, qA4, qA5, qA6]
  refine wpTail_take (i := 7) (v := ?_) rfl qKr qKr qKr rfl qKr (fun _ _ _ h => h) (Or.inl ⟨by rfl, ?_⟩) (by assumption) ?_
  rotate_left
  ·
   (intro w hSw; (try dsimp only at hSw); go_simp; try with_reducible rfl)
  try simp only [Act.put, qA1, qA2, qA3, qA4, qA5, qA6]
  refine wpTail_take (i := 8) (v := ?_) rfl qKr qKr qKr rfl qKr (fun _ _ _ h => h) (Or.inl ⟨by rfl, ?_⟩) (by assumption) ?_
  rotate_left
  ·
   (intro w hSw; (try dsimp only at hSw); go_simp; try with_reducible rfl)
  try simp only [Act.put, qA1, qA2, qA3, qA4, qA5, qA6]
  refine wpTail_one (i := 9) qKr rfl rfl (fun K hK => ?_)
  try simp only [Act.put, qA1, qA2, qA3, qA4, qA5, qA6]
  go_simp
  refine hK.out _ _ ⟨b10, b11, b12, b20, b21, b22, b23, b24, b30, b31, b32, b250, b251, b252, e310, e350⟩ (fun hHeld => ?_)
  clear hK K
  try simp only [Act.put, qA1, qA2, qA3, qA4, qA5, qA6]
  have hw43 : IntKind.i64.wrap (v32 * v36) = v32 * v36 := IntWalk.i64_in _ (by omega)
  refine wpTail_take (i := 10) (v := ?_) rfl qKr qKr qKr rfl qKr (fun _ _ _ h => h) (Or.inl ⟨by rfl, ?_⟩) (by assumption) ?_
  rotate_left
  ·
   (intro w hSw; (try dsimp only at hSw); go_simp; try with_reducible rfl)
  try simp only [Act.put, qA1, qA2, qA3, qA4, qA5, qA6]
  have hw44 : IntKind.i64.wrap (b1 + (v32 * v36)) = b1 + (v32 * v36) := IntWalk.i64_in _ (by omega)
  refine wpTail_take (i := 11) (v := ?_) rfl qKr qKr qKr rfl qKr (fun _ _ _ h => h) (Or.inl ⟨by rfl, ?_⟩) (by assumption) ?_
  rotate_left
  ·
   (intro w hSw; (try dsimp only at hSw); go_simp; try with_reducible rfl)
  try simp only [Act.put, qA1, qA2, qA3, qA4, qA5, qA6]
  refine wpTail_take (i := 12) (v := ?_) rfl qKr qKr qKr rfl qKr (fun _ _ _ h => h) (Or.inl ⟨by rfl, ?_⟩) (by assumption) ?_
  rotate_left
  ·
   (intro w hSw; (try dsimp only at hSw); go_simp; try with_reducible rfl)
  try simp only [Act.put, qA1, qA2, qA3, qA4, qA5, qA6]
  refine wpTail_last (i := 13) qKr rfl rfl (fun K hK => ?_)
  try simp only [Act.put, qA1, qA2, qA3, qA4, qA5, qA6]
  go_simp
  refine hK.out _ _ ?_
  clear hK K
  try simp only [Act.put, qA1, qA2, qA3, qA4, qA5, qA6]
  refine wpTail_done qKr ?_ _
  clear hHeld hw43 hw44
  clear e350 z_e35
  have Kw7 : Chg (w3.heap.size) (w3.heap.size + 1) w6 ((w6.setCell ⟨w3.heap.size, 0, none⟩ (.int .i64 (b1 + (v32 * v36)))).drew) := ((Chg.setCell (p := ⟨w3.heap.size, 0, none⟩) (Chg.refl (w3.heap.size) (w3.heap.size + 1) _) (Nat.le_refl _) (Nat.lt_succ_self _) (.int .i64 (b1 + (v32 * v36)))).ext (Ext.drew (Ext.refl _)))
  have Xw7 : Ext w ((w6.setCell ⟨w3.heap.size, 0, none⟩ (.int .i64 (b1 + (v32 * v36)))).drew) := (Ext.drew (Ext.setCell (p := ⟨w3.heap.size, 0, none⟩) Xw6 qSo (.int .i64 (b1 + (v32 * v36)))))
  have BL14_w7 : Ext w2 ((w6.setCell ⟨w3.heap.size, 0, none⟩ (.int .i64 (b1 + (v32 * v36)))).drew) := (Ext.drew (Ext.setCell (p := ⟨w3.heap.size, 0, none⟩) BL14_w6 qSo (.int .i64 (b1 + (v32 * v36)))))
  replace b10 := Kw7.cell (by omega) b10
  replace b11 := Kw7.cell (by omega) b11
  replace b12 := Kw7.cell (by omega) b12
  replace b20 := BL14_w7.cell Q13_b20.out
  replace b21 := BL14_w7.cell Q13_b21.out
  replace b22 := BL14_w7.cell Q13_b22.out
  replace b23 := BL14_w7.cell Q13_b23.out
  replace b24 := BL14_w7.cell Q13_b24.out
  replace b30 := BL14_w7.cell Q13_b30.out
  replace f_b30 := BL14_w7.frz Q13_zb3 Q13_f_b30.out
  replace b31 := BL14_w7.cell Q13_b31.out
  replace f_b31 := BL14_w7.frz Q13_zb3 Q13_f_b31.out
  replace b32 := BL14_w7.cell Q13_b32.out
  replace f_b32 := BL14_w7.frz Q13_zb3 Q13_f_b32.out
  have n_b250 : ((w6.setCell ⟨w3.heap.size, 0, none⟩ (.int .i64 (b1 + (v32 * v36)))).drew).cell? ⟨w3.heap.size, 0, none⟩ = some (.int .i64 (b1 + (v32 * v36))) := by go_simp
  have n_f_b250 : ((w6.setCell ⟨w3.heap.size, 0, none⟩ (.int .i64 (b1 + (v32 * v36)))).drew).frozen? ⟨w3.heap.size, 0, none⟩ = false := by go_simp
  have n_b251 : ((w6.setCell ⟨w3.heap.size, 0, none⟩ (.int .i64 (b1 + (v32 * v36)))).drew).cell? ⟨w3.heap.size, 1, none⟩ = some (.slice (some ⟨gr19, 0, none⟩) s1.length cfv15u) := by go_simp
  have n_f_b251 : ((w6.setCell ⟨w3.heap.size, 0, none⟩ (.int .i64 (b1 + (v32 * v36)))).drew).frozen? ⟨w3.heap.size, 1, none⟩ = false := by go_simp
  have n_b252 : ((w6.setCell ⟨w3.heap.size, 0, none⟩ (.int .i64 (b1 + (v32 * v36)))).drew).cell? ⟨w3.heap.size, 2, none⟩ = some (.slice (some ⟨gr20, 0, none⟩) t1.length cfv15v) := by go_simp
  have n_f_b252 : ((w6.setCell ⟨w3.heap.size, 0, none⟩ (.int .i64 (b1 + (v32 * v36)))).drew).frozen? ⟨w3.heap.size, 2, none⟩ = false := by go_simp
  replace b250 := n_b250
  clear n_b250
  replace f_b250 := n_f_b250
  clear n_f_b250
  replace b251 := n_b251
  clear n_b251
  replace f_b251 := n_f_b251
  clear n_f_b251
  replace b252 := n_b252
  clear n_b252
  replace f_b252 := n_f_b252
  clear n_f_b252
  replace e310 := Kw7.cell (by omega) e310
  replace i12 := (Q13_i12.out).ext BL14_w7
  replace O17 := O17.chgN Kw7 (by omega)
  replace O18 := O18.chgN Kw7 (by omega)
  clear Kw7
  have z_b1 : w.heap.size < ((w6.setCell ⟨w3.heap.size, 0, none⟩ (.int .i64 (b1 + (v32 * v36)))).drew).heap.size := qB b10
  have z_b2 : w.heap.size + 1 < ((w6.setCell ⟨w3.heap.size, 0, none⟩ (.int .i64 (b1 + (v32 * v36)))).drew).heap.size := qB b20
  have z_b3 : w.heap.size + 1 + 1 < ((w6.setCell ⟨w3.heap.size, 0, none⟩ (.int .i64 (b1 + (v32 * v36)))).drew).heap.size := qB b30
  have z_b25 : w3.heap.size < ((w6.setCell ⟨w3.heap.size, 0, none⟩ (.int .i64 (b1 + (v32 * v36)))).drew).heap.size := qB b250
  have z_e31 : bl29 < ((w6.setCell ⟨w3.heap.size, 0, none⟩ (.int .i64 (b1 + (v32 * v36)))).drew).heap.size := qB e310
  have s_w7 : w.heap.size ≤ ((w6.setCell ⟨w3.heap.size, 0, none⟩ (.int .i64 (b1 + (v32 * v36)))).drew).heap.size := Xw7.size
  generalize ((w6.setCell ⟨w3.heap.size, 0, none⟩ (.int .i64 (b1 + (v32 * v36)))).drew) = w7 at *
  by_cases hc45 : (1 : Int) < (L.length : Int)
  ·
   go_wp2_with fail
   have hI_e51 : (1 : Int) < (L.length : Int) := by have hB7 : 1 < L.length := (by omega); omega
   obtain ⟨b_e51, o_e51, h_e51, e510⟩ := i12.at 1 (by omega)
   cases h_e51
   obtain ⟨v52, hv52⟩ : ∃ v, L.getD 1 0 = v := ⟨_, rfl⟩
   rw [hv52] at e510
   replace hv52 := Lib.hid hv52
   have y_e51 : bl33 < w7.heap.size := qB e510
   have z_e51 := y_e51
   have h60v52 := hLin.out _ (getD_mem (show 1 < L.length by omega))
   rw [hv52.out] at h60v52
   have hL1 := hv52
   have hm2 := mul_bd2s (x := v32) (y := v52 - v36) h60v32.1 h60v32.2 (by omega) (by omega)
   have hI_e55 : (0 : Int) < (L.length : Int) := by have hB7 : 0 < L.length := (by omega); omega
   obtain ⟨b_e55, o_e55, h_e55, e550⟩ := i12.at 0 (by omega)
   cases h_e55
   rw [Nat.add_zero] at e550
   rw [hv36.out] at e550
   have y_e55 : bl33 < w7.heap.size := qB e550
   have z_e55 := y_e55
   have A56 := O18.cell D (by first | exact hDT | (simp only [List.length_set]; exact hDT))
   obtain ⟨A56a, A56b⟩ := A56
   refine wp_region_tail (S := fun w' => w'.cell? ⟨w.heap.size, 0, none⟩ = some (.int .i64 b1) ∧ w'.cell? ⟨w.heap.size, 1, none⟩ = some (.slice (some ⟨bl4, ol5, none⟩) s1.length c0) ∧ w'.cell? ⟨w.heap.size, 2, none⟩ = some (.slice (some ⟨bl29, ol30, none⟩) t1.length c1) ∧ w'.cell? ⟨w.heap.size + 1, 0, none⟩ = some (.int .i64 F) ∧ w'.cell? ⟨w.heap.size + 1, 1, none⟩ = some (.int .i64 T) ∧ w'.cell? ⟨w.heap.size + 1, 2, none⟩ = some (.int .i64 B) ∧ w'.cell? ⟨w.heap.size + 1, 3, none⟩ = some (.bool hf) ∧ w'.cell? ⟨w.heap.size + 1, 4, none⟩ = some (.bool ht) ∧ w'.cell? ⟨w.heap.size + 1 + 1, 0, none⟩ = some (.int .i64 0) ∧ w'.cell? ⟨w.heap.size + 1 + 1, 1, none⟩ = some (.slice none 0 0) ∧ w'.cell? ⟨w.heap.size + 1 + 1, 2, none⟩ = some (.slice none 0 0) ∧ w'.cell? ⟨w3.heap.size, 0, none⟩ = some (.int .i64 (b1 + (v32 * v36))) ∧ w'.cell? ⟨w3.heap.size, 1, none⟩ = some (.slice (some ⟨gr19, 0, none⟩) s1.length cfv15u) ∧ w'.cell? ⟨w3.heap.size, 2, none⟩ = some (.slice (some ⟨gr20, 0, none⟩) t1.length cfv15v) ∧ w'.cell? ⟨bl29, ol30 + D, none⟩ = some (.int .i64 v32) ∧ w'.cell? ⟨bl33, ol34 + 1, none⟩ = some (.int .i64 v52) ∧ w'.cell? ⟨bl33, ol34, none⟩ = some (.int .i64 v36)) (fun i => decide (17 ≤ i)) qKr ⟨b10, b11, b12, b20, b21, b22, b23, b24, b30, b31, b32, b250, b251, b252, e310, e510, e550⟩ (fun hHeld => ?_)
   refine wpTail_take (i := 0) (v := ?_) rfl qKr qKr qKr rfl qKr (fun _ _ _ h => h) (Or.inl ⟨by rfl, ?_⟩) (by assumption) ?_
   rotate_left
   ·
    (intro w hSw; (try dsimp only at hSw); go_simp; try with_reducible rfl)
   try simp only [Act.put, qA1, qA2, qA3, qA4, qA5, qA6]
   refine wpTail_take (i := 1) (v := ?_) rfl qKr qKr qKr rfl qKr (fun _ _ _ h => h) (Or.inl ⟨by rfl, ?_⟩) (by assumption) ?_
   rotate_left
   ·
    (intro w hSw; (try dsimp only at hSw); go_simp; try with_reducible rfl)
   try simp only [Act.put, qA1, qA2, qA3, qA4, qA5, qA6]
   refine wpTail_take (i := 2) (v := ?_) rfl qKr qKr qKr rfl qKr (fun _ _ _ h => h) (Or.inl ⟨by rfl, ?_⟩) (by assumption) ?_
   rotate_left
   ·
    (intro w hSw; (try dsimp only at hSw); go_simp; try with_reducible rfl)
   try simp only [Act.put, qA1, qA2, qA3, qA4, qA5, qA6]
   refine wpTail_take (i := 3) (v := ?_) rfl qKr qKr qKr rfl qKr (fun _ _ _ h => h) (Or.inl ⟨by rfl, ?_⟩) (by assumption) ?_
   rotate_left
   ·
    (intro w hSw; (try dsimp only at hSw); go_simp; try with_reducible rfl)
   try simp only [Act.put, qA1, qA2, qA3, qA4, qA5, qA6]
   refine wpTail_take (i := 4) (v := ?_) rfl qKr qKr qKr rfl qKr (fun _ _ _ h => h) (Or.inl ⟨by rfl, ?_⟩) (by assumption) ?_
   rotate_left
   ·
    (intro w hSw; (try dsimp only at hSw); go_simp; try with_reducible rfl)
   try simp only [Act.put, qA1, qA2, qA3, qA4, qA5, qA6]
   refine wpTail_take (i := 5) (v := ?_) rfl qKr qKr qKr rfl qKr (fun _ _ _ h => h) (Or.inl ⟨by rfl, ?_⟩) (by assumption) ?_
   rotate_left
   ·
    (intro w hSw; (try dsimp only at hSw); go_simp; try with_reducible rfl)
   try simp only [Act.put, qA1, qA2, qA3, qA4, qA5, qA6]
   refine wpTail_take (i := 6) (v := ?_) rfl qKr qKr qKr rfl qKr (fun _ _ _ h => h) (Or.inl ⟨by rfl, ?_⟩) (by assumption) ?_
   rotate_left
   ·
    (intro w hSw; (try dsimp only at hSw); go_simp; try with_reducible rfl)
   try simp only [Act.put, qA1, qA2, qA3, qA4, qA5, qA6]
   refine wpTail_take (i := 7) (v := ?_) rfl qKr qKr qKr rfl qKr (fun _ _ _ h => h) (Or.inl ⟨by rfl, ?_⟩) (by assumption) ?_
   rotate_left
   ·
    (intro w hSw; (try dsimp only at hSw); go_simp; try with_reducible rfl)
   try simp only [Act.put, qA1, qA2, qA3, qA4, qA5, qA6]
   refine wpTail_take (i := 8) (v := ?_) rfl qKr qKr qKr rfl qKr (fun _ _ _ h => h) (Or.inl ⟨by rfl, ?_⟩) (by assumption) ?_
   rotate_left
   ·
    (intro w hSw; (try dsimp only at hSw); go_simp; try with_reducible rfl)
   try simp only [Act.put, qA1, qA2, qA3, qA4, qA5, qA6]
   refine wpTail_take (i := 9) (v := ?_) rfl qKr qKr qKr rfl qKr (fun _ _ _ h => h) (Or.inl ⟨by rfl, ?_⟩) (by assumption) ?_
   rotate_left
   ·
    (intro w hSw; (try dsimp only at hSw); go_simp; try with_reducible rfl)
   try simp only [Act.put, qA1, qA2, qA3, qA4, qA5, qA6]
   refine wpTail_take (i := 10) (v := ?_) rfl qKr qKr qKr rfl qKr (fun _ _ _ h => h) (Or.inl ⟨by rfl, ?_⟩) (by assumption) ?_
   rotate_left
   ·
    (intro w hSw; (try dsimp only at hSw); go_simp; try with_reducible rfl)
   try simp only [Act.put, qA1, qA2, qA3, qA4, qA5, qA6]
   refine wpTail_take (i := 11) (v := ?_) rfl qKr qKr qKr rfl qKr (fun _ _ _ h => h) (Or.inl ⟨by rfl, ?_⟩) (by assumption) ?_
   rotate_left
   ·
    (intro w hSw; (try dsimp only at hSw); go_simp; try with_reducible rfl)
   try simp only [Act.put, qA1, qA2, qA3, qA4, qA5, qA6]
   refine wpTail_take (i := 12) (v := ?_) rfl qKr qKr qKr rfl qKr (fun _ _ _ h => h) (Or.inl ⟨by rfl, ?_⟩) (by assumption) ?_
   rotate_left
   ·
    (intro w hSw; (try dsimp only at hSw); go_simp; try with_reducible rfl)
   try simp only [Act.put, qA1, qA2, qA3, qA4, qA5, qA6]
   refine wpTail_one (i := 13) qKr rfl rfl (fun K hK => ?_)
   try simp only [Act.put, qA1, qA2, qA3, qA4, qA5, qA6]
   go_simp
   refine hK.out _ _ ⟨b10, b11, b12, b20, b21, b22, b23, b24, b30, b31, b32, b250, b251, b252, e310, e510, e550⟩ (fun hHeld => ?_)
   clear hK K
   try simp only [Act.put, qA1, qA2, qA3, qA4, qA5, qA6]
   have hw66 : IntKind.i64.wrap (v52 - v36) = v52 - v36 := IntWalk.i64_in _ (by omega)
   refine wpTail_take (i := 14) (v := ?_) rfl qKr qKr qKr rfl qKr (fun _ _ _ h => h) (Or.inl ⟨by rfl, ?_⟩) (by assumption) ?_
   rotate_left
   ·
    (intro w hSw; (try dsimp only at hSw); go_simp; try with_reducible rfl)
   try simp only [Act.put, qA1, qA2, qA3, qA4, qA5, qA6]
   have hw67 : IntKind.i64.wrap (v32 * (v52 - v36)) = v32 * (v52 - v36) := IntWalk.i64_in _ (by omega)
   refine wpTail_take (i := 15) (v := ?_) rfl qKr qKr qKr rfl qKr (fun _ _ _ h => h) (Or.inl ⟨by rfl, ?_⟩) (by assumption) ?_
   rotate_left
   ·
    (intro w hSw; (try dsimp only at hSw); go_simp; try with_reducible rfl)
   try simp only [Act.put, qA1, qA2, qA3, qA4, qA5, qA6]
   refine wpTail_take (i := 16) (v := ?_) rfl qKr qKr qKr rfl qKr (fun _ _ _ h => h) (Or.inl ⟨by rfl, ?_⟩) (by assumption) ?_
   rotate_left
   ·
    (intro w hSw; (try dsimp only at hSw); go_simp; try with_reducible rfl)
   try simp only [Act.put, qA1, qA2, qA3, qA4, qA5, qA6]
   refine wpTail_last (i := 17) qKr rfl rfl (fun K hK => ?_)
   try simp only [Act.put, qA1, qA2, qA3, qA4, qA5, qA6]
   go_simp
   refine hK.out _ _ ?_
   clear hK K
   try simp only [Act.put, qA1, qA2, qA3, qA4, qA5, qA6]
   refine wpTail_done qKr ?_ _
   clear hHeld hw66 hw67
   clear e310 z_e31
   clear e510 z_e51
   clear e550 z_e55
   have Kw8 : Chg (gr20) (gr20 + 1) w7 ((w7.setCell ⟨gr20, D, none⟩ (.int .i64 (v32 * (v52 - v36)))).drew) := ((Chg.setCell (p := ⟨gr20, D, none⟩) (Chg.refl (gr20) (gr20 + 1) _) (Nat.le_refl _) (Nat.lt_succ_self _) (.int .i64 (v32 * (v52 - v36)))).ext (Ext.drew (Ext.refl _)))
   have Xw8 : Ext w ((w7.setCell ⟨gr20, D, none⟩ (.int .i64 (v32 * (v52 - v36)))).drew) := (Ext.drew (Ext.setCell (p := ⟨gr20, D, none⟩) Xw7 qSo (.int .i64 (v32 * (v52 - v36)))))
   have BL14_w8 : Ext w2 ((w7.setCell ⟨gr20, D, none⟩ (.int .i64 (v32 * (v52 - v36)))).drew) := (Ext.drew (Ext.setCell (p := ⟨gr20, D, none⟩) BL14_w7 qSo (.int .i64 (v32 * (v52 - v36)))))
   replace b10 := Kw8.cell (by omega) b10
   replace b11 := Kw8.cell (by omega) b11
   replace b12 := Kw8.cell (by omega) b12
   replace b20 := BL14_w8.cell Q13_b20.out
   replace b21 := BL14_w8.cell Q13_b21.out
   replace b22 := BL14_w8.cell Q13_b22.out
   replace b23 := BL14_w8.cell Q13_b23.out
   replace b24 := BL14_w8.cell Q13_b24.out
   replace b30 := BL14_w8.cell Q13_b30.out
   replace f_b30 := BL14_w8.frz Q13_zb3 Q13_f_b30.out
   replace b31 := BL14_w8.cell Q13_b31.out
   replace f_b31 := BL14_w8.frz Q13_zb3 Q13_f_b31.out
   replace b32 := BL14_w8.cell Q13_b32.out
   replace f_b32 := BL14_w8.frz Q13_zb3 Q13_f_b32.out
   replace b250 := Kw8.cell (by omega) b250
   replace f_b250 := Kw8.frzO (by omega) z_b25 f_b250
   replace b251 := Kw8.cell (by omega) b251
   replace f_b251 := Kw8.frzO (by omega) z_b25 f_b251
   replace b252 := Kw8.cell (by omega) b252
   replace f_b252 := Kw8.frzO (by omega) z_b25 f_b252
   replace i12 := (Q13_i12.out).ext BL14_w8
   replace O17 := O17.chgN Kw8 (by omega)
   have n_O18 := O18.setD D (v32 * (v52 - v36)) (by first | omega | (simp; omega) | (rw [putUp_len]; simp; omega) | (rw [addUp_len]; omega))
   replace O18 := n_O18
   clear n_O18
   clear Kw8
   have z_b1 : w.heap.size < ((w7.setCell ⟨gr20, D, none⟩ (.int .i64 (v32 * (v52 - v36)))).drew).heap.size := qB b10
   have z_b2 : w.heap.size + 1 < ((w7.setCell ⟨gr20, D, none⟩ (.int .i64 (v32 * (v52 - v36)))).drew).heap.size := qB b20
   have z_b3 : w.heap.size + 1 + 1 < ((w7.setCell ⟨gr20, D, none⟩ (.int .i64 (v32 * (v52 - v36)))).drew).heap.size := qB b30
   have z_b25 : w3.heap.size < ((w7.setCell ⟨gr20, D, none⟩ (.int .i64 (v32 * (v52 - v36)))).drew).heap.size := qB b250
   have s_w8 : w.heap.size ≤ ((w7.setCell ⟨gr20, D, none⟩ (.int .i64 (v32 * (v52 - v36)))).drew).heap.size := Xw8.size
   generalize ((w7.setCell ⟨gr20, D, none⟩ (.int .i64 (v32 * (v52 - v36)))).drew) = w8 at *
   clear A56a A56b
   go_wp2_with fail
   by_cases hcl68 : countL (s1.set D (L.length : Int)) = 0
   ·
    refine (cleared_0 (b1 + (v32 * v36)) _ _ (s1.set D (L.length : Int)) _ _ ((O17.ints (by first | omega | (simp only [List.length_set]; omega))).ext qXt) hcl68).mono ?_
    rintro e w9 ⟨svO69, rfl, O69, xw9⟩
    have Lw9 : Ext w8 w9 := Ext.trans qXt xw9
    have Xw9 : Ext w w9 := Xw8.trans Lw9
    replace b10 := Lw9.cell b10
    replace b11 := Lw9.cell b11
    replace b12 := Lw9.cell b12
    replace b20 := Lw9.cell b20
    replace b21 := Lw9.cell b21
    replace b22 := Lw9.cell b22
    replace b23 := Lw9.cell b23
    replace b24 := Lw9.cell b24
    replace b30 := Lw9.cell b30
    replace b31 := Lw9.cell b31
    replace b32 := Lw9.cell b32
    replace f_b30 := Lw9.frz z_b3 f_b30
    replace f_b31 := Lw9.frz z_b3 f_b31
    replace f_b32 := Lw9.frz z_b3 f_b32
    replace b250 := Lw9.cell b250
    replace b251 := Lw9.cell b251
    replace b252 := Lw9.cell b252
    replace f_b250 := Lw9.frz z_b25 f_b250
    replace f_b251 := Lw9.frz z_b25 f_b251
    replace f_b252 := Lw9.frz z_b25 f_b252
    have z_b1 : w.heap.size < w9.heap.size := qB b10
    have z_b2 : w.heap.size + 1 < w9.heap.size := qB b20
    have z_b3 : w.heap.size + 1 + 1 < w9.heap.size := qB b30
    have z_b25 : w3.heap.size < w9.heap.size := qB b250
    replace i12 := i12.ext Lw9
    replace O17 := O17.ext Lw9
    replace O18 := O18.ext Lw9
    have s_w9 : w.heap.size ≤ w9.heap.size := Xw9.size
    have BL14_w9 : Ext w2 w9 := BL14_w8.trans Lw9
    clear xw9
    obtain ⟨aa70, cc71, rfl⟩ := (O69.ints (by simp; omega)).form
    rw [List.length_replicate] at O69 ⊢
    rw [List.length_set] at O69 ⊢
    go_wp2_with fail
    have Kw10 : Chg (w.heap.size + 1 + 1) (w.heap.size + 1 + 1 + 1) w9 (((w9.setCell ⟨w.heap.size + 1 + 1, 0, none⟩ (.int .i64 0)).setCell ⟨w.heap.size + 1 + 1, 1, none⟩ (.slice (some ⟨gr19, 0, none⟩) s1.length cfv15u)).setCell ⟨w.heap.size + 1 + 1, 2, none⟩ (.slice aa70 s1.length cc71)) := (Chg.setCell (p := ⟨w.heap.size + 1 + 1, 2, none⟩) (Chg.setCell (p := ⟨w.heap.size + 1 + 1, 1, none⟩) (Chg.setCell (p := ⟨w.heap.size + 1 + 1, 0, none⟩) (Chg.refl (w.heap.size + 1 + 1) (w.heap.size + 1 + 1 + 1) _) (Nat.le_refl _) (Nat.lt_succ_self _) (.int .i64 0)) (Nat.le_refl _) (Nat.lt_succ_self _) (.slice (some ⟨gr19, 0, none⟩) s1.length cfv15u)) (Nat.le_refl _) (Nat.lt_succ_self _) (.slice aa70 s1.length cc71))
    have Xw10 : Ext w (((w9.setCell ⟨w.heap.size + 1 + 1, 0, none⟩ (.int .i64 0)).setCell ⟨w.heap.size + 1 + 1, 1, none⟩ (.slice (some ⟨gr19, 0, none⟩) s1.length cfv15u)).setCell ⟨w.heap.size + 1 + 1, 2, none⟩ (.slice aa70 s1.length cc71)) := (Ext.setCell (p := ⟨w.heap.size + 1 + 1, 2, none⟩) (Ext.setCell (p := ⟨w.heap.size + 1 + 1, 1, none⟩) (Ext.setCell (p := ⟨w.heap.size + 1 + 1, 0, none⟩) Xw9 qSo (.int .i64 0)) qSo (.slice (some ⟨gr19, 0, none⟩) s1.length cfv15u)) qSo (.slice aa70 s1.length cc71))
    replace b10 := Kw10.cell (by omega) b10
    replace b11 := Kw10.cell (by omega) b11
    replace b12 := Kw10.cell (by omega) b12
    replace b20 := Kw10.cell (by omega) b20
    replace b21 := Kw10.cell (by omega) b21
    replace b22 := Kw10.cell (by omega) b22
    replace b23 := Kw10.cell (by omega) b23
    replace b24 := Kw10.cell (by omega) b24
    have n_b30 : (((w9.setCell ⟨w.heap.size + 1 + 1, 0, none⟩ (.int .i64 0)).setCell ⟨w.heap.size + 1 + 1, 1, none⟩ (.slice (some ⟨gr19, 0, none⟩) s1.length cfv15u)).setCell ⟨w.heap.size + 1 + 1, 2, none⟩ (.slice aa70 s1.length cc71)).cell? ⟨w.heap.size + 1 + 1, 0, none⟩ = some (.int .i64 0) := by go_simp
    have n_f_b30 : (((w9.setCell ⟨w.heap.size + 1 + 1, 0, none⟩ (.int .i64 0)).setCell ⟨w.heap.size + 1 + 1, 1, none⟩ (.slice (some ⟨gr19, 0, none⟩) s1.length cfv15u)).setCell ⟨w.heap.size + 1 + 1, 2, none⟩ (.slice aa70 s1.length cc71)).frozen? ⟨w.heap.size + 1 + 1, 0, none⟩ = false := by go_simp
    have n_b31 : (((w9.setCell ⟨w.heap.size + 1 + 1, 0, none⟩ (.int .i64 0)).setCell ⟨w.heap.size + 1 + 1, 1, none⟩ (.slice (some ⟨gr19, 0, none⟩) s1.length cfv15u)).setCell ⟨w.heap.size + 1 + 1, 2, none⟩ (.slice aa70 s1.length cc71)).cell? ⟨w.heap.size + 1 + 1, 1, none⟩ = some (.slice (some ⟨gr19, 0, none⟩) s1.length cfv15u) := by go_simp
    have n_f_b31 : (((w9.setCell ⟨w.heap.size + 1 + 1, 0, none⟩ (.int .i64 0)).setCell ⟨w.heap.size + 1 + 1, 1, none⟩ (.slice (some ⟨gr19, 0, none⟩) s1.length cfv15u)).setCell ⟨w.heap.size + 1 + 1, 2, none⟩ (.slice aa70 s1.length cc71)).frozen? ⟨w.heap.size + 1 + 1, 1, none⟩ = false := by go_simp
    have n_b32 : (((w9.setCell ⟨w.heap.size + 1 + 1, 0, none⟩ (.int .i64 0)).setCell ⟨w.heap.size + 1 + 1, 1, none⟩ (.slice (some ⟨gr19, 0, none⟩) s1.length cfv15u)).setCell ⟨w.heap.size + 1 + 1, 2, none⟩ (.slice aa70 s1.length cc71)).cell? ⟨w.heap.size + 1 + 1, 2, none⟩ = some (.slice aa70 s1.length cc71) := by go_simp
    have n_f_b32 : (((w9.setCell ⟨w.heap.size + 1 + 1, 0, none⟩ (.int .i64 0)).setCell ⟨w.heap.size + 1 + 1, 1, none⟩ (.slice (some ⟨gr19, 0, none⟩) s1.length cfv15u)).setCell ⟨w.heap.size + 1 + 1, 2, none⟩ (.slice aa70 s1.length cc71)).frozen? ⟨w.heap.size + 1 + 1, 2, none⟩ = false := by go_simp
    replace b30 := n_b30
    clear n_b30
    replace f_b30 := n_f_b30
    clear n_f_b30
    replace b31 := n_b31
    clear n_b31
    replace f_b31 := n_f_b31
    clear n_f_b31
    replace b32 := n_b32
    clear n_b32
    replace f_b32 := n_f_b32
    clear n_f_b32
    replace b250 := Kw10.cell (by omega) b250
    replace f_b250 := Kw10.frzO (by omega) z_b25 f_b250
    replace b251 := Kw10.cell (by omega) b251
    replace f_b251 := Kw10.frzO (by omega) z_b25 f_b251
    replace b252 := Kw10.cell (by omega) b252
    replace f_b252 := Kw10.frzO (by omega) z_b25 f_b252
    replace i12 := i12.chg Kw10 (by omega)
    replace O17 := O17.chgN Kw10 (by omega)
    replace O18 := O18.chgN Kw10 (by omega)
    replace O69 := O69.chg Kw10 (by omega)
    clear Kw10
    have z_b1 : w.heap.size < (((w9.setCell ⟨w.heap.size + 1 + 1, 0, none⟩ (.int .i64 0)).setCell ⟨w.heap.size + 1 + 1, 1, none⟩ (.slice (some ⟨gr19, 0, none⟩) s1.length cfv15u)).setCell ⟨w.heap.size + 1 + 1, 2, none⟩ (.slice aa70 s1.length cc71)).heap.size := qB b10
    have z_b2 : w.heap.size + 1 < (((w9.setCell ⟨w.heap.size + 1 + 1, 0, none⟩ (.int .i64 0)).setCell ⟨w.heap.size + 1 + 1, 1, none⟩ (.slice (some ⟨gr19, 0, none⟩) s1.length cfv15u)).setCell ⟨w.heap.size + 1 + 1, 2, none⟩ (.slice aa70 s1.length cc71)).heap.size := qB b20
    have z_b3 : w.heap.size + 1 + 1 < (((w9.setCell ⟨w.heap.size + 1 + 1, 0, none⟩ (.int .i64 0)).setCell ⟨w.heap.size + 1 + 1, 1, none⟩ (.slice (some ⟨gr19, 0, none⟩) s1.length cfv15u)).setCell ⟨w.heap.size + 1 + 1, 2, none⟩ (.slice aa70 s1.length cc71)).heap.size := qB b30
    have z_b25 : w3.heap.size < (((w9.setCell ⟨w.heap.size + 1 + 1, 0, none⟩ (.int .i64 0)).setCell ⟨w.heap.size + 1 + 1, 1, none⟩ (.slice (some ⟨gr19, 0, none⟩) s1.length cfv15u)).setCell ⟨w.heap.size + 1 + 1, 2, none⟩ (.slice aa70 s1.length cc71)).heap.size := qB b250
    have s_w10 : w.heap.size ≤ (((w9.setCell ⟨w.heap.size + 1 + 1, 0, none⟩ (.int .i64 0)).setCell ⟨w.heap.size + 1 + 1, 1, none⟩ (.slice (some ⟨gr19, 0, none⟩) s1.length cfv15u)).setCell ⟨w.heap.size + 1 + 1, 2, none⟩ (.slice aa70 s1.length cc71)).heap.size := Xw10.size
    generalize (((w9.setCell ⟨w.heap.size + 1 + 1, 0, none⟩ (.int .i64 0)).setCell ⟨w.heap.size + 1 + 1, 1, none⟩ (.slice (some ⟨gr19, 0, none⟩) s1.length cfv15u)).setCell ⟨w.heap.size + 1 + 1, 2, none⟩ (.slice aa70 s1.length cc71)) = w10 at *
    refine bodyPost_ret (v := .agg #[.int .i64 0, .slice (some ⟨gr19, 0, none⟩) s1.length cfv15u, .slice aa70 s1.length cc71]) (by simp only [results, Try.results104]; go_simp) rfl ?_
    obtain ⟨hpB, hpT⟩ := cut_prog (b := b1) (e := toI v7 T B ht) hsm.out hDN (sliceB_in hsl.out).2.2.2 hL.out hx1.out
    have qB := hpB (b1 + v32 * v36) (by right; rw [hL0.out])
    have qT := hpT (v32 * (v52 - v36)) (by rw [if_pos (by omega), hL1.out, hL0.out])
    rw [show idxS (s1.getD D 0) F T B hf ht = L by rw [hv7.out]; exact hL.out, qB, qT]
    refine ⟨.slice (some ⟨gr19, 0, none⟩) s1.length cfv15u, .slice aa70 s1.length cc71, ?_, (O17.ints (by first | omega | (simp only [List.length_set]; omega))).lower (by omega), ?_, Xw10⟩
    ·
     unfold tidyB; rw [if_pos hcl68]
    ·
     unfold tidyT; rw [if_pos hcl68, List.length_set]
     exact (O69.ints (by simp; omega)).lower (by omega)
   ·
    refine (cleared_1 (b1 + (v32 * v36)) _ _ (s1.set D (L.length : Int)) ((t1.set D 0).set D (v32 * (v52 - v36))) _ _ _ ((O17.ints (by first | omega | (simp only [List.length_set]; omega))).ext qXt) ((O18.ints (by first | omega | (simp only [List.length_set]; omega))).ext qXt) hcl68).mono ?_
    rintro e w9 ⟨rfl, xw9⟩
    have Lw9 : Ext w8 w9 := Ext.trans qXt xw9
    have Xw9 : Ext w w9 := Xw8.trans Lw9
    replace b10 := Lw9.cell b10
    replace b11 := Lw9.cell b11
    replace b12 := Lw9.cell b12
    replace b20 := Lw9.cell b20
    replace b21 := Lw9.cell b21
    replace b22 := Lw9.cell b22
    replace b23 := Lw9.cell b23
    replace b24 := Lw9.cell b24
    replace b30 := Lw9.cell b30
    replace b31 := Lw9.cell b31
    replace b32 := Lw9.cell b32
    replace f_b30 := Lw9.frz z_b3 f_b30
    replace f_b31 := Lw9.frz z_b3 f_b31
    replace f_b32 := Lw9.frz z_b3 f_b32
    replace b250 := Lw9.cell b250
    replace b251 := Lw9.cell b251
    replace b252 := Lw9.cell b252
    replace f_b250 := Lw9.frz z_b25 f_b250
    replace f_b251 := Lw9.frz z_b25 f_b251
    replace f_b252 := Lw9.frz z_b25 f_b252
    have z_b1 : w.heap.size < w9.heap.size := qB b10
    have z_b2 : w.heap.size + 1 < w9.heap.size := qB b20
    have z_b3 : w.heap.size + 1 + 1 < w9.heap.size := qB b30
    have z_b25 : w3.heap.size < w9.heap.size := qB b250
    replace i12 := i12.ext Lw9
    replace O17 := O17.ext Lw9
    replace O18 := O18.ext Lw9
    have s_w9 : w.heap.size ≤ w9.heap.size := Xw9.size
    have BL14_w9 : Ext w2 w9 := BL14_w8.trans Lw9
    clear xw9
    go_wp2_with fail
    have Kw10 : Chg (w.heap.size + 1 + 1) (w.heap.size + 1 + 1 + 1) w9 (((w9.setCell ⟨w.heap.size + 1 + 1, 0, none⟩ (.int .i64 (b1 + (v32 * v36)))).setCell ⟨w.heap.size + 1 + 1, 1, none⟩ (.slice (some ⟨gr19, 0, none⟩) s1.length cfv15u)).setCell ⟨w.heap.size + 1 + 1, 2, none⟩ (.slice (some ⟨gr20, 0, none⟩) t1.length cfv15v)) := (Chg.setCell (p := ⟨w.heap.size + 1 + 1, 2, none⟩) (Chg.setCell (p := ⟨w.heap.size + 1 + 1, 1, none⟩) (Chg.setCell (p := ⟨w.heap.size + 1 + 1, 0, none⟩) (Chg.refl (w.heap.size + 1 + 1) (w.heap.size + 1 + 1 + 1) _) (Nat.le_refl _) (Nat.lt_succ_self _) (.int .i64 (b1 + (v32 * v36)))) (Nat.le_refl _) (Nat.lt_succ_self _) (.slice (some ⟨gr19, 0, none⟩) s1.length cfv15u)) (Nat.le_refl _) (Nat.lt_succ_self _) (.slice (some ⟨gr20, 0, none⟩) t1.length cfv15v))
    have Xw10 : Ext w (((w9.setCell ⟨w.heap.size + 1 + 1, 0, none⟩ (.int .i64 (b1 + (v32 * v36)))).setCell ⟨w.heap.size + 1 + 1, 1, none⟩ (.slice (some ⟨gr19, 0, none⟩) s1.length cfv15u)).setCell ⟨w.heap.size + 1 + 1, 2, none⟩ (.slice (some ⟨gr20, 0, none⟩) t1.length cfv15v)) := (Ext.setCell (p := ⟨w.heap.size + 1 + 1, 2, none⟩) (Ext.setCell (p := ⟨w.heap.size + 1 + 1, 1, none⟩) (Ext.setCell (p := ⟨w.heap.size + 1 + 1, 0, none⟩) Xw9 qSo (.int .i64 (b1 + (v32 * v36)))) qSo (.slice (some ⟨gr19, 0, none⟩) s1.length cfv15u)) qSo (.slice (some ⟨gr20, 0, none⟩) t1.length cfv15v))
    replace b10 := Kw10.cell (by omega) b10
    replace b11 := Kw10.cell (by omega) b11
    replace b12 := Kw10.cell (by omega) b12
    replace b20 := Kw10.cell (by omega) b20
    replace b21 := Kw10.cell (by omega) b21
    replace b22 := Kw10.cell (by omega) b22
    replace b23 := Kw10.cell (by omega) b23
    replace b24 := Kw10.cell (by omega) b24
    have n_b30 : (((w9.setCell ⟨w.heap.size + 1 + 1, 0, none⟩ (.int .i64 (b1 + (v32 * v36)))).setCell ⟨w.heap.size + 1 + 1, 1, none⟩ (.slice (some ⟨gr19, 0, none⟩) s1.length cfv15u)).setCell ⟨w.heap.size + 1 + 1, 2, none⟩ (.slice (some ⟨gr20, 0, none⟩) t1.length cfv15v)).cell? ⟨w.heap.size + 1 + 1, 0, none⟩ = some (.int .i64 (b1 + (v32 * v36))) := by go_simp
    have n_f_b30 : (((w9.setCell ⟨w.heap.size + 1 + 1, 0, none⟩ (.int .i64 (b1 + (v32 * v36)))).setCell ⟨w.heap.size + 1 + 1, 1, none⟩ (.slice (some ⟨gr19, 0, none⟩) s1.length cfv15u)).setCell ⟨w.heap.size + 1 + 1, 2, none⟩ (.slice (some ⟨gr20, 0, none⟩) t1.length cfv15v)).frozen? ⟨w.heap.size + 1 + 1, 0, none⟩ = false := by go_simp
    have n_b31 : (((w9.setCell ⟨w.heap.size + 1 + 1, 0, none⟩ (.int .i64 (b1 + (v32 * v36)))).setCell ⟨w.heap.size + 1 + 1, 1, none⟩ (.slice (some ⟨gr19, 0, none⟩) s1.length cfv15u)).setCell ⟨w.heap.size + 1 + 1, 2, none⟩ (.slice (some ⟨gr20, 0, none⟩) t1.length cfv15v)).cell? ⟨w.heap.size + 1 + 1, 1, none⟩ = some (.slice (some ⟨gr19, 0, none⟩) s1.length cfv15u) := by go_simp
    have n_f_b31 : (((w9.setCell ⟨w.heap.size + 1 + 1, 0, none⟩ (.int .i64 (b1 + (v32 * v36)))).setCell ⟨w.heap.size + 1 + 1, 1, none⟩ (.slice (some ⟨gr19, 0, none⟩) s1.length cfv15u)).setCell ⟨w.heap.size + 1 + 1, 2, none⟩ (.slice (some ⟨gr20, 0, none⟩) t1.length cfv15v)).frozen? ⟨w.heap.size + 1 + 1, 1, none⟩ = false := by go_simp
    have n_b32 : (((w9.setCell ⟨w.heap.size + 1 + 1, 0, none⟩ (.int .i64 (b1 + (v32 * v36)))).setCell ⟨w.heap.size + 1 + 1, 1, none⟩ (.slice (some ⟨gr19, 0, none⟩) s1.length cfv15u)).setCell ⟨w.heap.size + 1 + 1, 2, none⟩ (.slice (some ⟨gr20, 0, none⟩) t1.length cfv15v)).cell? ⟨w.heap.size + 1 + 1, 2, none⟩ = some (.slice (some ⟨gr20, 0, none⟩) t1.length cfv15v) := by go_simp
    have n_f_b32 : (((w9.setCell ⟨w.heap.size + 1 + 1, 0, none⟩ (.int .i64 (b1 + (v32 * v36)))).setCell ⟨w.heap.size + 1 + 1, 1, none⟩ (.slice (some ⟨gr19, 0, none⟩) s1.length cfv15u)).setCell ⟨w.heap.size + 1 + 1, 2, none⟩ (.slice (some ⟨gr20, 0, none⟩) t1.length cfv15v)).frozen? ⟨w.heap.size + 1 + 1, 2, none⟩ = false := by go_simp
    replace b30 := n_b30
    clear n_b30
    replace f_b30 := n_f_b30
    clear n_f_b30
    replace b31 := n_b31
    clear n_b31
    replace f_b31 := n_f_b31
    clear n_f_b31
    replace b32 := n_b32
    clear n_b32
    replace f_b32 := n_f_b32
    clear n_f_b32
    replace b250 := Kw10.cell (by omega) b250
    replace f_b250 := Kw10.frzO (by omega) z_b25 f_b250
    replace b251 := Kw10.cell (by omega) b251
    replace f_b251 := Kw10.frzO (by omega) z_b25 f_b251
    replace b252 := Kw10.cell (by omega) b252
    replace f_b252 := Kw10.frzO (by omega) z_b25 f_b252
    replace i12 := i12.chg Kw10 (by omega)
    replace O17 := O17.chgN Kw10 (by omega)
    replace O18 := O18.chgN Kw10 (by omega)
    clear Kw10
    have z_b1 : w.heap.size < (((w9.setCell ⟨w.heap.size + 1 + 1, 0, none⟩ (.int .i64 (b1 + (v32 * v36)))).setCell ⟨w.heap.size + 1 + 1, 1, none⟩ (.slice (some ⟨gr19, 0, none⟩) s1.length cfv15u)).setCell ⟨w.heap.size + 1 + 1, 2, none⟩ (.slice (some ⟨gr20, 0, none⟩) t1.length cfv15v)).heap.size := qB b10
    have z_b2 : w.heap.size + 1 < (((w9.setCell ⟨w.heap.size + 1 + 1, 0, none⟩ (.int .i64 (b1 + (v32 * v36)))).setCell ⟨w.heap.size + 1 + 1, 1, none⟩ (.slice (some ⟨gr19, 0, none⟩) s1.length cfv15u)).setCell ⟨w.heap.size + 1 + 1, 2, none⟩ (.slice (some ⟨gr20, 0, none⟩) t1.length cfv15v)).heap.size := qB b20
    have z_b3 : w.heap.size + 1 + 1 < (((w9.setCell ⟨w.heap.size + 1 + 1, 0, none⟩ (.int .i64 (b1 + (v32 * v36)))).setCell ⟨w.heap.size + 1 + 1, 1, none⟩ (.slice (some ⟨gr19, 0, none⟩) s1.length cfv15u)).setCell ⟨w.heap.size + 1 + 1, 2, none⟩ (.slice (some ⟨gr20, 0, none⟩) t1.length cfv15v)).heap.size := qB b30
    have z_b25 : w3.heap.size < (((w9.setCell ⟨w.heap.size + 1 + 1, 0, none⟩ (.int .i64 (b1 + (v32 * v36)))).setCell ⟨w.heap.size + 1 + 1, 1, none⟩ (.slice (some ⟨gr19, 0, none⟩) s1.length cfv15u)).setCell ⟨w.heap.size + 1 + 1, 2, none⟩ (.slice (some ⟨gr20, 0, none⟩) t1.length cfv15v)).heap.size := qB b250
    have s_w10 : w.heap.size ≤ (((w9.setCell ⟨w.heap.size + 1 + 1, 0, none⟩ (.int .i64 (b1 + (v32 * v36)))).setCell ⟨w.heap.size + 1 + 1, 1, none⟩ (.slice (some ⟨gr19, 0, none⟩) s1.length cfv15u)).setCell ⟨w.heap.size + 1 + 1, 2, none⟩ (.slice (some ⟨gr20, 0, none⟩) t1.length cfv15v)).heap.size := Xw10.size
    generalize (((w9.setCell ⟨w.heap.size + 1 + 1, 0, none⟩ (.int .i64 (b1 + (v32 * v36)))).setCell ⟨w.heap.size + 1 + 1, 1, none⟩ (.slice (some ⟨gr19, 0, none⟩) s1.length cfv15u)).setCell ⟨w.heap.size + 1 + 1, 2, none⟩ (.slice (some ⟨gr20, 0, none⟩) t1.length cfv15v)) = w10 at *
    refine bodyPost_ret (v := .agg #[.int .i64 (b1 + (v32 * v36)), .slice (some ⟨gr19, 0, none⟩) s1.length cfv15u, .slice (some ⟨gr20, 0, none⟩) t1.length cfv15v]) (by simp only [results, Try.results104]; go_simp) rfl ?_
    obtain ⟨hpB, hpT⟩ := cut_prog (b := b1) (e := toI v7 T B ht) hsm.out hDN (sliceB_in hsl.out).2.2.2 hL.out hx1.out
    have qB := hpB (b1 + v32 * v36) (by right; rw [hL0.out])
    have qT := hpT (v32 * (v52 - v36)) (by rw [if_pos (by omega), hL1.out, hL0.out])
    rw [show idxS (s1.getD D 0) F T B hf ht = L by rw [hv7.out]; exact hL.out, qB, qT]
    refine ⟨.slice (some ⟨gr19, 0, none⟩) s1.length cfv15u, .slice (some ⟨gr20, 0, none⟩) t1.length cfv15v, ?_, (O17.ints (by first | omega | (simp only [List.length_set]; omega))).lower (by omega), ?_, Xw10⟩
    ·
     unfold tidyB; rw [if_neg hcl68]
    ·
     unfold tidyT; rw [if_neg hcl68]
     have h7 := (O18.ints (by first | omega | (simp only [List.length_set]; omega))).lower (lo' := w.heap.size) (by omega)
     rw [List.set_set] at h7
     exact h7
  ·
   go_wp2_with fail
   by_cases hcl72 : countL (s1.set D (L.length : Int)) = 0
   ·
    refine (cleared_0 (b1 + (v32 * v36)) _ _ (s1.set D (L.length : Int)) _ _ ((O17.ints (by first | omega | (simp only [List.length_set]; omega))).ext qXt) hcl72).mono ?_
    rintro e w8 ⟨svO73, rfl, O73, xw8⟩
    have Lw8 : Ext w7 w8 := Ext.trans qXt xw8
    have Xw8 : Ext w w8 := Xw7.trans Lw8
    replace b10 := Lw8.cell b10
    replace b11 := Lw8.cell b11
    replace b12 := Lw8.cell b12
    replace b20 := Lw8.cell b20
    replace b21 := Lw8.cell b21
    replace b22 := Lw8.cell b22
    replace b23 := Lw8.cell b23
    replace b24 := Lw8.cell b24
    replace b30 := Lw8.cell b30
    replace b31 := Lw8.cell b31
    replace b32 := Lw8.cell b32
    replace f_b30 := Lw8.frz z_b3 f_b30
    replace f_b31 := Lw8.frz z_b3 f_b31
    replace f_b32 := Lw8.frz z_b3 f_b32
    replace b250 := Lw8.cell b250
    replace b251 := Lw8.cell b251
    replace b252 := Lw8.cell b252
    replace f_b250 := Lw8.frz z_b25 f_b250
    replace f_b251 := Lw8.frz z_b25 f_b251
    replace f_b252 := Lw8.frz z_b25 f_b252
    replace e310 := Lw8.cell e310
    have z_b1 : w.heap.size < w8.heap.size := qB b10
    have z_b2 : w.heap.size + 1 < w8.heap.size := qB b20
    have z_b3 : w.heap.size + 1 + 1 < w8.heap.size := qB b30
    have z_b25 : w3.heap.size < w8.heap.size := qB b250
    have z_e31 : bl29 < w8.heap.size := qB e310
    replace i12 := i12.ext Lw8
    replace O17 := O17.ext Lw8
    replace O18 := O18.ext Lw8
    have s_w8 : w.heap.size ≤ w8.heap.size := Xw8.size
    have BL14_w8 : Ext w2 w8 := BL14_w7.trans Lw8
    clear xw8
    obtain ⟨aa74, cc75, rfl⟩ := (O73.ints (by simp; omega)).form
    rw [List.length_replicate] at O73 ⊢
    rw [List.length_set] at O73 ⊢
    go_wp2_with fail
    have Kw9 : Chg (w.heap.size + 1 + 1) (w.heap.size + 1 + 1 + 1) w8 (((w8.setCell ⟨w.heap.size + 1 + 1, 0, none⟩ (.int .i64 0)).setCell ⟨w.heap.size + 1 + 1, 1, none⟩ (.slice (some ⟨gr19, 0, none⟩) s1.length cfv15u)).setCell ⟨w.heap.size + 1 + 1, 2, none⟩ (.slice aa74 s1.length cc75)) := (Chg.setCell (p := ⟨w.heap.size + 1 + 1, 2, none⟩) (Chg.setCell (p := ⟨w.heap.size + 1 + 1, 1, none⟩) (Chg.setCell (p := ⟨w.heap.size + 1 + 1, 0, none⟩) (Chg.refl (w.heap.size + 1 + 1) (w.heap.size + 1 + 1 + 1) _) (Nat.le_refl _) (Nat.lt_succ_self _) (.int .i64 0)) (Nat.le_refl _) (Nat.lt_succ_self _) (.slice (some ⟨gr19, 0, none⟩) s1.length cfv15u)) (Nat.le_refl _) (Nat.lt_succ_self _) (.slice aa74 s1.length cc75))
    have Xw9 : Ext w (((w8.setCell ⟨w.heap.size + 1 + 1, 0, none⟩ (.int .i64 0)).setCell ⟨w.heap.size + 1 + 1, 1, none⟩ (.slice (some ⟨gr19, 0, none⟩) s1.length cfv15u)).setCell ⟨w.heap.size + 1 + 1, 2, none⟩ (.slice aa74 s1.length cc75)) := (Ext.setCell (p := ⟨w.heap.size + 1 + 1, 2, none⟩) (Ext.setCell (p := ⟨w.heap.size + 1 + 1, 1, none⟩) (Ext.setCell (p := ⟨w.heap.size + 1 + 1, 0, none⟩) Xw8 qSo (.int .i64 0)) qSo (.slice (some ⟨gr19, 0, none⟩) s1.length cfv15u)) qSo (.slice aa74 s1.length cc75))
    replace b10 := Kw9.cell (by omega) b10
    replace b11 := Kw9.cell (by omega) b11
    replace b12 := Kw9.cell (by omega) b12
    replace b20 := Kw9.cell (by omega) b20
    replace b21 := Kw9.cell (by omega) b21
    replace b22 := Kw9.cell (by omega) b22
    replace b23 := Kw9.cell (by omega) b23
    replace b24 := Kw9.cell (by omega) b24
    have n_b30 : (((w8.setCell ⟨w.heap.size + 1 + 1, 0, none⟩ (.int .i64 0)).setCell ⟨w.heap.size + 1 + 1, 1, none⟩ (.slice (some ⟨gr19, 0, none⟩) s1.length cfv15u)).setCell ⟨w.heap.size + 1 + 1, 2, none⟩ (.slice aa74 s1.length cc75)).cell? ⟨w.heap.size + 1 + 1, 0, none⟩ = some (.int .i64 0) := by go_simp
    have n_f_b30 : (((w8.setCell ⟨w.heap.size + 1 + 1, 0, none⟩ (.int .i64 0)).setCell ⟨w.heap.size + 1 + 1, 1, none⟩ (.slice (some ⟨gr19, 0, none⟩) s1.length cfv15u)).setCell ⟨w.heap.size + 1 + 1, 2, none⟩ (.slice aa74 s1.length cc75)).frozen? ⟨w.heap.size + 1 + 1, 0, none⟩ = false := by go_simp
    have n_b31 : (((w8.setCell ⟨w.heap.size + 1 + 1, 0, none⟩ (.int .i64 0)).setCell ⟨w.heap.size + 1 + 1, 1, none⟩ (.slice (some ⟨gr19, 0, none⟩) s1.length cfv15u)).setCell ⟨w.heap.size + 1 + 1, 2, none⟩ (.slice aa74 s1.length cc75)).cell? ⟨w.heap.size + 1 + 1, 1, none⟩ = some (.slice (some ⟨gr19, 0, none⟩) s1.length cfv15u) := by go_simp
    have n_f_b31 : (((w8.setCell ⟨w.heap.size + 1 + 1, 0, none⟩ (.int .i64 0)).setCell ⟨w.heap.size + 1 + 1, 1, none⟩ (.slice (some ⟨gr19, 0, none⟩) s1.length cfv15u)).setCell ⟨w.heap.size + 1 + 1, 2, none⟩ (.slice aa74 s1.length cc75)).frozen? ⟨w.heap.size + 1 + 1, 1, none⟩ = false := by go_simp
    have n_b32 : (((w8.setCell ⟨w.heap.size + 1 + 1, 0, none⟩ (.int .i64 0)).setCell ⟨w.heap.size + 1 + 1, 1, none⟩ (.slice (some ⟨gr19, 0, none⟩) s1.length cfv15u)).setCell ⟨w.heap.size + 1 + 1, 2, none⟩ (.slice aa74 s1.length cc75)).cell? ⟨w.heap.size + 1 + 1, 2, none⟩ = some (.slice aa74 s1.length cc75) := by go_simp
    have n_f_b32 : (((w8.setCell ⟨w.heap.size + 1 + 1, 0, none⟩ (.int .i64 0)).setCell ⟨w.heap.size + 1 + 1, 1, none⟩ (.slice (some ⟨gr19, 0, none⟩) s1.length cfv15u)).setCell ⟨w.heap.size + 1 + 1, 2, none⟩ (.slice aa74 s1.length cc75)).frozen? ⟨w.heap.size + 1 + 1, 2, none⟩ = false := by go_simp
    replace b30 := n_b30
    clear n_b30
    replace f_b30 := n_f_b30
    clear n_f_b30
    replace b31 := n_b31
    clear n_b31
    replace f_b31 := n_f_b31
    clear n_f_b31
    replace b32 := n_b32
    clear n_b32
    replace f_b32 := n_f_b32
    clear n_f_b32
    replace b250 := Kw9.cell (by omega) b250
    replace f_b250 := Kw9.frzO (by omega) z_b25 f_b250
    replace b251 := Kw9.cell (by omega) b251
    replace f_b251 := Kw9.frzO (by omega) z_b25 f_b251
    replace b252 := Kw9.cell (by omega) b252
    replace f_b252 := Kw9.frzO (by omega) z_b25 f_b252
    replace e310 := Kw9.cell (by omega) e310
    replace i12 := i12.chg Kw9 (by omega)
    replace O17 := O17.chgN Kw9 (by omega)
    replace O18 := O18.chgN Kw9 (by omega)
    replace O73 := O73.chg Kw9 (by omega)
    clear Kw9
    have z_b1 : w.heap.size < (((w8.setCell ⟨w.heap.size + 1 + 1, 0, none⟩ (.int .i64 0)).setCell ⟨w.heap.size + 1 + 1, 1, none⟩ (.slice (some ⟨gr19, 0, none⟩) s1.length cfv15u)).setCell ⟨w.heap.size + 1 + 1, 2, none⟩ (.slice aa74 s1.length cc75)).heap.size := qB b10
    have z_b2 : w.heap.size + 1 < (((w8.setCell ⟨w.heap.size + 1 + 1, 0, none⟩ (.int .i64 0)).setCell ⟨w.heap.size + 1 + 1, 1, none⟩ (.slice (some ⟨gr19, 0, none⟩) s1.length cfv15u)).setCell ⟨w.heap.size + 1 + 1, 2, none⟩ (.slice aa74 s1.length cc75)).heap.size := qB b20
    have z_b3 : w.heap.size + 1 + 1 < (((w8.setCell ⟨w.heap.size + 1 + 1, 0, none⟩ (.int .i64 0)).setCell ⟨w.heap.size + 1 + 1, 1, none⟩ (.slice (some ⟨gr19, 0, none⟩) s1.length cfv15u)).setCell ⟨w.heap.size + 1 + 1, 2, none⟩ (.slice aa74 s1.length cc75)).heap.size := qB b30
    have z_b25 : w3.heap.size < (((w8.setCell ⟨w.heap.size + 1 + 1, 0, none⟩ (.int .i64 0)).setCell ⟨w.heap.size + 1 + 1, 1, none⟩ (.slice (some ⟨gr19, 0, none⟩) s1.length cfv15u)).setCell ⟨w.heap.size + 1 + 1, 2, none⟩ (.slice aa74 s1.length cc75)).heap.size := qB b250
    have z_e31 : bl29 < (((w8.setCell ⟨w.heap.size + 1 + 1, 0, none⟩ (.int .i64 0)).setCell ⟨w.heap.size + 1 + 1, 1, none⟩ (.slice (some ⟨gr19, 0, none⟩) s1.length cfv15u)).setCell ⟨w.heap.size + 1 + 1, 2, none⟩ (.slice aa74 s1.length cc75)).heap.size := qB e310
    have s_w9 : w.heap.size ≤ (((w8.setCell ⟨w.heap.size + 1 + 1, 0, none⟩ (.int .i64 0)).setCell ⟨w.heap.size + 1 + 1, 1, none⟩ (.slice (some ⟨gr19, 0, none⟩) s1.length cfv15u)).setCell ⟨w.heap.size + 1 + 1, 2, none⟩ (.slice aa74 s1.length cc75)).heap.size := Xw9.size
    generalize (((w8.setCell ⟨w.heap.size + 1 + 1, 0, none⟩ (.int .i64 0)).setCell ⟨w.heap.size + 1 + 1, 1, none⟩ (.slice (some ⟨gr19, 0, none⟩) s1.length cfv15u)).setCell ⟨w.heap.size + 1 + 1, 2, none⟩ (.slice aa74 s1.length cc75)) = w9 at *
    refine bodyPost_ret (v := .agg #[.int .i64 0, .slice (some ⟨gr19, 0, none⟩) s1.length cfv15u, .slice aa74 s1.length cc75]) (by simp only [results, Try.results104]; go_simp) rfl ?_
    obtain ⟨hpB, hpT⟩ := cut_prog (b := b1) (e := toI v7 T B ht) hsm.out hDN (sliceB_in hsl.out).2.2.2 hL.out hx1.out
    have qB := hpB (b1 + v32 * v36) (by right; rw [hL0.out])
    have qT := hpT (0) (by rw [if_neg (by omega)])
    rw [show idxS (s1.getD D 0) F T B hf ht = L by rw [hv7.out]; exact hL.out, qB, qT]
    refine ⟨.slice (some ⟨gr19, 0, none⟩) s1.length cfv15u, .slice aa74 s1.length cc75, ?_, (O17.ints (by first | omega | (simp only [List.length_set]; omega))).lower (by omega), ?_, Xw9⟩
    ·
     unfold tidyB; rw [if_pos hcl72]
    ·
     unfold tidyT; rw [if_pos hcl72, List.length_set]
     exact (O73.ints (by simp; omega)).lower (by omega)
   ·
    refine (cleared_1 (b1 + (v32 * v36)) _ _ (s1.set D (L.length : Int)) (t1.set D 0) _ _ _ ((O17.ints (by first | omega | (simp only [List.length_set]; omega))).ext qXt) ((O18.ints (by first | omega | (simp only [List.length_set]; omega))).ext qXt) hcl72).mono ?_
    rintro e w8 ⟨rfl, xw8⟩
    have Lw8 : Ext w7 w8 := Ext.trans qXt xw8
    have Xw8 : Ext w w8 := Xw7.trans Lw8
    replace b10 := Lw8.cell b10
    replace b11 := Lw8.cell b11
    replace b12 := Lw8.cell b12
    replace b20 := Lw8.cell b20
    replace b21 := Lw8.cell b21
    replace b22 := Lw8.cell b22
    replace b23 := Lw8.cell b23
    replace b24 := Lw8.cell b24
    replace b30 := Lw8.cell b30
    replace b31 := Lw8.cell b31
    replace b32 := Lw8.cell b32
    replace f_b30 := Lw8.frz z_b3 f_b30
    replace f_b31 := Lw8.frz z_b3 f_b31
    replace f_b32 := Lw8.frz z_b3 f_b32
    replace b250 := Lw8.cell b250
    replace b251 := Lw8.cell b251
    replace b252 := Lw8.cell b252
    replace f_b250 := Lw8.frz z_b25 f_b250
    replace f_b251 := Lw8.frz z_b25 f_b251
    replace f_b252 := Lw8.frz z_b25 f_b252
    replace e310 := Lw8.cell e310
    have z_b1 : w.heap.size < w8.heap.size := qB b10
    have z_b2 : w.heap.size + 1 < w8.heap.size := qB b20
    have z_b3 : w.heap.size + 1 + 1 < w8.heap.size := qB b30
    have z_b25 : w3.heap.size < w8.heap.size := qB b250
    have z_e31 : bl29 < w8.heap.size := qB e310
    replace i12 := i12.ext Lw8
    replace O17 := O17.ext Lw8
    replace O18 := O18.ext Lw8
    have s_w8 : w.heap.size ≤ w8.heap.size := Xw8.size
    have BL14_w8 : Ext w2 w8 := BL14_w7.trans Lw8
    clear xw8
    go_wp2_with fail
    have Kw9 : Chg (w.heap.size + 1 + 1) (w.heap.size + 1 + 1 + 1) w8 (((w8.setCell ⟨w.heap.size + 1 + 1, 0, none⟩ (.int .i64 (b1 + (v32 * v36)))).setCell ⟨w.heap.size + 1 + 1, 1, none⟩ (.slice (some ⟨gr19, 0, none⟩) s1.length cfv15u)).setCell ⟨w.heap.size + 1 + 1, 2, none⟩ (.slice (some ⟨gr20, 0, none⟩) t1.length cfv15v)) := (Chg.setCell (p := ⟨w.heap.size + 1 + 1, 2, none⟩) (Chg.setCell (p := ⟨w.heap.size + 1 + 1, 1, none⟩) (Chg.setCell (p := ⟨w.heap.size + 1 + 1, 0, none⟩) (Chg.refl (w.heap.size + 1 + 1) (w.heap.size + 1 + 1 + 1) _) (Nat.le_refl _) (Nat.lt_succ_self _) (.int .i64 (b1 + (v32 * v36)))) (Nat.le_refl _) (Nat.lt_succ_self _) (.slice (some ⟨gr19, 0, none⟩) s1.length cfv15u)) (Nat.le_refl _) (Nat.lt_succ_self _) (.slice (some ⟨gr20, 0, none⟩) t1.length cfv15v))
    have Xw9 : Ext w (((w8.setCell ⟨w.heap.size + 1 + 1, 0, none⟩ (.int .i64 (b1 + (v32 * v36)))).setCell ⟨w.heap.size + 1 + 1, 1, none⟩ (.slice (some ⟨gr19, 0, none⟩) s1.length cfv15u)).setCell ⟨w.heap.size + 1 + 1, 2, none⟩ (.slice (some ⟨gr20, 0, none⟩) t1.length cfv15v)) := (Ext.setCell (p := ⟨w.heap.size + 1 + 1, 2, none⟩) (Ext.setCell (p := ⟨w.heap.size + 1 + 1, 1, none⟩) (Ext.setCell (p := ⟨w.heap.size + 1 + 1, 0, none⟩) Xw8 qSo (.int .i64 (b1 + (v32 * v36)))) qSo (.slice (some ⟨gr19, 0, none⟩) s1.length cfv15u)) qSo (.slice (some ⟨gr20, 0, none⟩) t1.length cfv15v))
    replace b10 := Kw9.cell (by omega) b10
    replace b11 := Kw9.cell (by omega) b11
    replace b12 := Kw9.cell (by omega) b12
    replace b20 := Kw9.cell (by omega) b20
    replace b21 := Kw9.cell (by omega) b21
    replace b22 := Kw9.cell (by omega) b22
    replace b23 := Kw9.cell (by omega) b23
    replace b24 := Kw9.cell (by omega) b24
    have n_b30 : (((w8.setCell ⟨w.heap.size + 1 + 1, 0, none⟩ (.int .i64 (b1 + (v32 * v36)))).setCell ⟨w.heap.size + 1 + 1, 1, none⟩ (.slice (some ⟨gr19, 0, none⟩) s1.length cfv15u)).setCell ⟨w.heap.size + 1 + 1, 2, none⟩ (.slice (some ⟨gr20, 0, none⟩) t1.length cfv15v)).cell? ⟨w.heap.size + 1 + 1, 0, none⟩ = some (.int .i64 (b1 + (v32 * v36))) := by go_simp
    have n_f_b30 : (((w8.setCell ⟨w.heap.size + 1 + 1, 0, none⟩ (.int .i64 (b1 + (v32 * v36)))).setCell ⟨w.heap.size + 1 + 1, 1, none⟩ (.slice (some ⟨gr19, 0, none⟩) s1.length cfv15u)).setCell ⟨w.heap.size + 1 + 1, 2, none⟩ (.slice (some ⟨gr20, 0, none⟩) t1.length cfv15v)).frozen? ⟨w.heap.size + 1 + 1, 0, none⟩ = false := by go_simp
    have n_b31 : (((w8.setCell ⟨w.heap.size + 1 + 1, 0, none⟩ (.int .i64 (b1 + (v32 * v36)))).setCell ⟨w.heap.size + 1 + 1, 1, none⟩ (.slice (some ⟨gr19, 0, none⟩) s1.length cfv15u)).setCell ⟨w.heap.size + 1 + 1, 2, none⟩ (.slice (some ⟨gr20, 0, none⟩) t1.length cfv15v)).cell? ⟨w.heap.size + 1 + 1, 1, none⟩ = some (.slice (some ⟨gr19, 0, none⟩) s1.length cfv15u) := by go_simp
    have n_f_b31 : (((w8.setCell ⟨w.heap.size + 1 + 1, 0, none⟩ (.int .i64 (b1 + (v32 * v36)))).setCell ⟨w.heap.size + 1 + 1, 1, none⟩ (.slice (some ⟨gr19, 0, none⟩) s1.length cfv15u)).setCell ⟨w.heap.size + 1 + 1, 2, none⟩ (.slice (some ⟨gr20, 0, none⟩) t1.length cfv15v)).frozen? ⟨w.heap.size + 1 + 1, 1, none⟩ = false := by go_simp
    have n_b32 : (((w8.setCell ⟨w.heap.size + 1 + 1, 0, none⟩ (.int .i64 (b1 + (v32 * v36)))).setCell ⟨w.heap.size + 1 + 1, 1, none⟩ (.slice (some ⟨gr19, 0, none⟩) s1.length cfv15u)).setCell ⟨w.heap.size + 1 + 1, 2, none⟩ (.slice (some ⟨gr20, 0, none⟩) t1.length cfv15v)).cell? ⟨w.heap.size + 1 + 1, 2, none⟩ = some (.slice (some ⟨gr20, 0, none⟩) t1.length cfv15v) := by go_simp
    have n_f_b32 : (((w8.setCell ⟨w.heap.size + 1 + 1, 0, none⟩ (.int .i64 (b1 + (v32 * v36)))).setCell ⟨w.heap.size + 1 + 1, 1, none⟩ (.slice (some ⟨gr19, 0, none⟩) s1.length cfv15u)).setCell ⟨w.heap.size + 1 + 1, 2, none⟩ (.slice (some ⟨gr20, 0, none⟩) t1.length cfv15v)).frozen? ⟨w.heap.size + 1 + 1, 2, none⟩ = false := by go_simp
    replace b30 := n_b30
    clear n_b30
    replace f_b30 := n_f_b30
    clear n_f_b30
    replace b31 := n_b31
    clear n_b31
    replace f_b31 := n_f_b31
    clear n_f_b31
    replace b32 := n_b32
    clear n_b32
    replace f_b32 := n_f_b32
    clear n_f_b32
    replace b250 := Kw9.cell (by omega) b250
    replace f_b250 := Kw9.frzO (by omega) z_b25 f_b250
    replace b251 := Kw9.cell (by omega) b251
    replace f_b251 := Kw9.frzO (by omega) z_b25 f_b251
    replace b252 := Kw9.cell (by omega) b252
    replace f_b252 := Kw9.frzO (by omega) z_b25 f_b252
    replace e310 := Kw9.cell (by omega) e310
    replace i12 := i12.chg Kw9 (by omega)
    replace O17 := O17.chgN Kw9 (by omega)
    replace O18 := O18.chgN Kw9 (by omega)
    clear Kw9
    have z_b1 : w.heap.size < (((w8.setCell ⟨w.heap.size + 1 + 1, 0, none⟩ (.int .i64 (b1 + (v32 * v36)))).setCell ⟨w.heap.size + 1 + 1, 1, none⟩ (.slice (some ⟨gr19, 0, none⟩) s1.length cfv15u)).setCell ⟨w.heap.size + 1 + 1, 2, none⟩ (.slice (some ⟨gr20, 0, none⟩) t1.length cfv15v)).heap.size := qB b10
    have z_b2 : w.heap.size + 1 < (((w8.setCell ⟨w.heap.size + 1 + 1, 0, none⟩ (.int .i64 (b1 + (v32 * v36)))).setCell ⟨w.heap.size + 1 + 1, 1, none⟩ (.slice (some ⟨gr19, 0, none⟩) s1.length cfv15u)).setCell ⟨w.heap.size + 1 + 1, 2, none⟩ (.slice (some ⟨gr20, 0, none⟩) t1.length cfv15v)).heap.size := qB b20
    have z_b3 : w.heap.size + 1 + 1 < (((w8.setCell ⟨w.heap.size + 1 + 1, 0, none⟩ (.int .i64 (b1 + (v32 * v36)))).setCell ⟨w.heap.size + 1 + 1, 1, none⟩ (.slice (some ⟨gr19, 0, none⟩) s1.length cfv15u)).setCell ⟨w.heap.size + 1 + 1, 2, none⟩ (.slice (some ⟨gr20, 0, none⟩) t1.length cfv15v)).heap.size := qB b30
    have z_b25 : w3.heap.size < (((w8.setCell ⟨w.heap.size + 1 + 1, 0, none⟩ (.int .i64 (b1 + (v32 * v36)))).setCell ⟨w.heap.size + 1 + 1, 1, none⟩ (.slice (some ⟨gr19, 0, none⟩) s1.length cfv15u)).setCell ⟨w.heap.size + 1 + 1, 2, none⟩ (.slice (some ⟨gr20, 0, none⟩) t1.length cfv15v)).heap.size := qB b250
    have z_e31 : bl29 < (((w8.setCell ⟨w.heap.size + 1 + 1, 0, none⟩ (.int .i64 (b1 + (v32 * v36)))).setCell ⟨w.heap.size + 1 + 1, 1, none⟩ (.slice (some ⟨gr19, 0, none⟩) s1.length cfv15u)).setCell ⟨w.heap.size + 1 + 1, 2, none⟩ (.slice (some ⟨gr20, 0, none⟩) t1.length cfv15v)).heap.size := qB e310
    have s_w9 : w.heap.size ≤ (((w8.setCell ⟨w.heap.size + 1 + 1, 0, none⟩ (.int .i64 (b1 + (v32 * v36)))).setCell ⟨w.heap.size + 1 + 1, 1, none⟩ (.slice (some ⟨gr19, 0, none⟩) s1.length cfv15u)).setCell ⟨w.heap.size + 1 + 1, 2, none⟩ (.slice (some ⟨gr20, 0, none⟩) t1.length cfv15v)).heap.size := Xw9.size
    generalize (((w8.setCell ⟨w.heap.size + 1 + 1, 0, none⟩ (.int .i64 (b1 + (v32 * v36)))).setCell ⟨w.heap.size + 1 + 1, 1, none⟩ (.slice (some ⟨gr19, 0, none⟩) s1.length cfv15u)).setCell ⟨w.heap.size + 1 + 1, 2, none⟩ (.slice (some ⟨gr20, 0, none⟩) t1.length cfv15v)) = w9 at *
    refine bodyPost_ret (v := .agg #[.int .i64 (b1 + (v32 * v36)), .slice (some ⟨gr19, 0, none⟩) s1.length cfv15u, .slice (some ⟨gr20, 0, none⟩) t1.length cfv15v]) (by simp only [results, Try.results104]; go_simp) rfl ?_
    obtain ⟨hpB, hpT⟩ := cut_prog (b := b1) (e := toI v7 T B ht) hsm.out hDN (sliceB_in hsl.out).2.2.2 hL.out hx1.out
    have qB := hpB (b1 + v32 * v36) (by right; rw [hL0.out])
    have qT := hpT (0) (by rw [if_neg (by omega)])
    rw [show idxS (s1.getD D 0) F T B hf ht = L by rw [hv7.out]; exact hL.out, qB, qT]
    refine ⟨.slice (some ⟨gr19, 0, none⟩) s1.length cfv15u, .slice (some ⟨gr20, 0, none⟩) t1.length cfv15v, ?_, (O17.ints (by first | omega | (simp only [List.length_set]; omega))).lower (by omega), ?_, Xw9⟩
    ·
     unfold tidyB; rw [if_neg hcl72]
    ·
     unfold tidyT; rw [if_neg hcl72]
     exact (O18.ints (by first | omega | (simp only [List.length_set]; omega))).lower (by omega)
 ·
  have hq76 : ¬ ((1 : Int) < (L.length : Int)) := (by omega)
  go_wp2_with fail
  have Kw6 : Chg (gr20) (gr20 + 1) w5 (w5.setCell ⟨gr20, D, none⟩ (.int .i64 0)) := (Chg.setCell (p := ⟨gr20, D, none⟩) (Chg.refl (gr20) (gr20 + 1) _) (Nat.le_refl _) (Nat.lt_succ_self _) (.int .i64 0))
  have Xw6 : Ext w (w5.setCell ⟨gr20, D, none⟩ (.int .i64 0)) := (Ext.setCell (p := ⟨gr20, D, none⟩) Xw5 qSo (.int .i64 0))
  have BL14_w6 : Ext w2 (w5.setCell ⟨gr20, D, none⟩ (.int .i64 0)) := (Ext.setCell (p := ⟨gr20, D, none⟩) BL14_w5 qSo (.int .i64 0))
  replace b10 := BL14_w6.cell Q13_b10.out
  replace b11 := BL14_w6.cell Q13_b11.out
  replace b12 := BL14_w6.cell Q13_b12.out
  replace b20 := BL14_w6.cell Q13_b20.out
  replace b21 := BL14_w6.cell Q13_b21.out
  replace b22 := BL14_w6.cell Q13_b22.out
  replace b23 := BL14_w6.cell Q13_b23.out
  replace b24 := BL14_w6.cell Q13_b24.out
  replace b30 := BL14_w6.cell Q13_b30.out
  replace f_b30 := BL14_w6.frz Q13_zb3 Q13_f_b30.out
  replace b31 := BL14_w6.cell Q13_b31.out
  replace f_b31 := BL14_w6.frz Q13_zb3 Q13_f_b31.out
  replace b32 := BL14_w6.cell Q13_b32.out
  replace f_b32 := BL14_w6.frz Q13_zb3 Q13_f_b32.out
  replace b250 := Kw6.cell (by omega) b250
  replace f_b250 := Kw6.frzO (by omega) z_b25 f_b250
  replace b251 := Kw6.cell (by omega) b251
  replace f_b251 := Kw6.frzO (by omega) z_b25 f_b251
  replace b252 := Kw6.cell (by omega) b252
  replace f_b252 := Kw6.frzO (by omega) z_b25 f_b252
  replace i12 := (Q13_i12.out).ext BL14_w6
  replace O17 := O17.chgN Kw6 (by omega)
  have n_O18 := O18.set D (0) (by first | omega | (simp; omega) | (rw [putUp_len]; simp; omega) | (rw [addUp_len]; omega))
  replace O18 := n_O18
  clear n_O18
  clear Kw6
  have z_b1 : w.heap.size < (w5.setCell ⟨gr20, D, none⟩ (.int .i64 0)).heap.size := qB b10
  have z_b2 : w.heap.size + 1 < (w5.setCell ⟨gr20, D, none⟩ (.int .i64 0)).heap.size := qB b20
  have z_b3 : w.heap.size + 1 + 1 < (w5.setCell ⟨gr20, D, none⟩ (.int .i64 0)).heap.size := qB b30
  have z_b25 : w3.heap.size < (w5.setCell ⟨gr20, D, none⟩ (.int .i64 0)).heap.size := qB b250
  have s_w6 : w.heap.size ≤ (w5.setCell ⟨gr20, D, none⟩ (.int .i64 0)).heap.size := Xw6.size
  generalize (w5.setCell ⟨gr20, D, none⟩ (.int .i64 0)) = w6 at *
  clear A27a A27b
  by_cases hcl77 : countL (s1.set D (L.length : Int)) = 0
  ·
   refine (cleared_0 b1 _ _ (s1.set D (L.length : Int)) _ _ ((O17.ints (by first | omega | (simp only [List.length_set]; omega))).ext qXt) hcl77).mono ?_
   rintro e w7 ⟨svO78, rfl, O78, xw7⟩
   have Lw7 : Ext w6 w7 := Ext.trans qXt xw7
   have Xw7 : Ext w w7 := Xw6.trans Lw7
   replace b10 := Lw7.cell b10
   replace b11 := Lw7.cell b11
   replace b12 := Lw7.cell b12
   replace b20 := Lw7.cell b20
   replace b21 := Lw7.cell b21
   replace b22 := Lw7.cell b22
   replace b23 := Lw7.cell b23
   replace b24 := Lw7.cell b24
   replace b30 := Lw7.cell b30
   replace b31 := Lw7.cell b31
   replace b32 := Lw7.cell b32
   replace f_b30 := Lw7.frz z_b3 f_b30
   replace f_b31 := Lw7.frz z_b3 f_b31
   replace f_b32 := Lw7.frz z_b3 f_b32
   replace b250 := Lw7.cell b250
   replace b251 := Lw7.cell b251
   replace b252 := Lw7.cell b252
   replace f_b250 := Lw7.frz z_b25 f_b250
   replace f_b251 := Lw7.frz z_b25 f_b251
   replace f_b252 := Lw7.frz z_b25 f_b252
   have z_b1 : w.heap.size < w7.heap.size := qB b10
   have z_b2 : w.heap.size + 1 < w7.heap.size := qB b20
   have z_b3 : w.heap.size + 1 + 1 < w7.heap.size := qB b30
   have z_b25 : w3.heap.size < w7.heap.size := qB b250
   replace i12 := i12.ext Lw7
   replace O17 := O17.ext Lw7
   replace O18 := O18.ext Lw7
   have s_w7 : w.heap.size ≤ w7.heap.size := Xw7.size
   have BL14_w7 : Ext w2 w7 := BL14_w6.trans Lw7
   clear xw7
   obtain ⟨aa79, cc80, rfl⟩ := (O78.ints (by simp; omega)).form
   rw [List.length_replicate] at O78 ⊢
   rw [List.length_set] at O78 ⊢
   go_wp2_with fail
   have Kw8 : Chg (w.heap.size + 1 + 1) (w.heap.size + 1 + 1 + 1) w7 (((w7.setCell ⟨w.heap.size + 1 + 1, 0, none⟩ (.int .i64 0)).setCell ⟨w.heap.size + 1 + 1, 1, none⟩ (.slice (some ⟨gr19, 0, none⟩) s1.length cfv15u)).setCell ⟨w.heap.size + 1 + 1, 2, none⟩ (.slice aa79 s1.length cc80)) := (Chg.setCell (p := ⟨w.heap.size + 1 + 1, 2, none⟩) (Chg.setCell (p := ⟨w.heap.size + 1 + 1, 1, none⟩) (Chg.setCell (p := ⟨w.heap.size + 1 + 1, 0, none⟩) (Chg.refl (w.heap.size + 1 + 1) (w.heap.size + 1 + 1 + 1) _) (Nat.le_refl _) (Nat.lt_succ_self _) (.int .i64 0)) (Nat.le_refl _) (Nat.lt_succ_self _) (.slice (some ⟨gr19, 0, none⟩) s1.length cfv15u)) (Nat.le_refl _) (Nat.lt_succ_self _) (.slice aa79 s1.length cc80))
   have Xw8 : Ext w (((w7.setCell ⟨w.heap.size + 1 + 1, 0, none⟩ (.int .i64 0)).setCell ⟨w.heap.size + 1 + 1, 1, none⟩ (.slice (some ⟨gr19, 0, none⟩) s1.length cfv15u)).setCell ⟨w.heap.size + 1 + 1, 2, none⟩ (.slice aa79 s1.length cc80)) := (Ext.setCell (p := ⟨w.heap.size + 1 + 1, 2, none⟩) (Ext.setCell (p := ⟨w.heap.size + 1 + 1, 1, none⟩) (Ext.setCell (p := ⟨w.heap.size + 1 + 1, 0, none⟩) Xw7 qSo (.int .i64 0)) qSo (.slice (some ⟨gr19, 0, none⟩) s1.length cfv15u)) qSo (.slice aa79 s1.length cc80))
   replace b10 := Kw8.cell (by omega) b10
   replace b11 := Kw8.cell (by omega) b11
   replace b12 := Kw8.cell (by omega) b12
   replace b20 := Kw8.cell (by omega) b20
   replace b21 := Kw8.cell (by omega) b21
   replace b22 := Kw8.cell (by omega) b22
   replace b23 := Kw8.cell (by omega) b23
   replace b24 := Kw8.cell (by omega) b24
   have n_b30 : (((w7.setCell ⟨w.heap.size + 1 + 1, 0, none⟩ (.int .i64 0)).setCell ⟨w.heap.size + 1 + 1, 1, none⟩ (.slice (some ⟨gr19, 0, none⟩) s1.length cfv15u)).setCell ⟨w.heap.size + 1 + 1, 2, none⟩ (.slice aa79 s1.length cc80)).cell? ⟨w.heap.size + 1 + 1, 0, none⟩ = some (.int .i64 0) := by go_simp
   have n_f_b30 : (((w7.setCell ⟨w.heap.size + 1 + 1, 0, none⟩ (.int .i64 0)).setCell ⟨w.heap.size + 1 + 1, 1, none⟩ (.slice (some ⟨gr19, 0, none⟩) s1.length cfv15u)).setCell ⟨w.heap.size + 1 + 1, 2, none⟩ (.slice aa79 s1.length cc80)).frozen? ⟨w.heap.size + 1 + 1, 0, none⟩ = false := by go_simp
   have n_b31 : (((w7.setCell ⟨w.heap.size + 1 + 1, 0, none⟩ (.int .i64 0)).setCell ⟨w.heap.size + 1 + 1, 1, none⟩ (.slice (some ⟨gr19, 0, none⟩) s1.length cfv15u)).setCell ⟨w.heap.size + 1 + 1, 2, none⟩ (.slice aa79 s1.length cc80)).cell? ⟨w.heap.size + 1 + 1, 1, none⟩ = some (.slice (some ⟨gr19, 0, none⟩) s1.length cfv15u) := by go_simp
   have n_f_b31 : (((w7.setCell ⟨w.heap.size + 1 + 1, 0, none⟩ (.int .i64 0)).setCell ⟨w.heap.size + 1 + 1, 1, none⟩ (.slice (some ⟨gr19, 0, none⟩) s1.length cfv15u)).setCell ⟨w.heap.size + 1 + 1, 2, none⟩ (.slice aa79 s1.length cc80)).frozen? ⟨w.heap.size + 1 + 1, 1, none⟩ = false := by go_simp
   have n_b32 : (((w7.setCell ⟨w.heap.size + 1 + 1, 0, none⟩ (.int .i64 0)).setCell ⟨w.heap.size + 1 + 1, 1, none⟩ (.slice (some ⟨gr19, 0, none⟩) s1.length cfv15u)).setCell ⟨w.heap.size + 1 + 1, 2, none⟩ (.slice aa79 s1.length cc80)).cell? ⟨w.heap.size + 1 + 1, 2, none⟩ = some (.slice aa79 s1.length cc80) := by go_simp
   have n_f_b32 : (((w7.setCell ⟨w.heap.size + 1 + 1, 0, none⟩ (.int .i64 0)).setCell ⟨w.heap.size + 1 + 1, 1, none⟩ (.slice (some ⟨gr19, 0, none⟩) s1.length cfv15u)).setCell ⟨w.heap.size + 1 + 1, 2, none⟩ (.slice aa79 s1.length cc80)).frozen? ⟨w.heap.size + 1 + 1, 2, none⟩ = false := by go_simp
   replace b30 := n_b30
   clear n_b30
   replace f_b30 := n_f_b30
   clear n_f_b30
   replace b31 := n_b31
   clear n_b31
   replace f_b31 := n_f_b31
   clear n_f_b31
   replace b32 := n_b32
   clear n_b32
   replace f_b32 := n_f_b32
   clear n_f_b32
   replace b250 := Kw8.cell (by omega) b250
   replace f_b250 := Kw8.frzO (by omega) z_b25 f_b250
   replace b251 := Kw8.cell (by omega) b251
   replace f_b251 := Kw8.frzO (by omega) z_b25 f_b251
   replace b252 := Kw8.cell (by omega) b252
   replace f_b252 := Kw8.frzO (by omega) z_b25 f_b252
   replace i12 := i12.chg Kw8 (by omega)
   replace O17 := O17.chgN Kw8 (by omega)
   replace O18 := O18.chgN Kw8 (by omega)
   replace O78 := O78.chg Kw8 (by omega)
   clear Kw8
   have z_b1 : w.heap.size < (((w7.setCell ⟨w.heap.size + 1 + 1, 0, none⟩ (.int .i64 0)).setCell ⟨w.heap.size + 1 + 1, 1, none⟩ (.slice (some ⟨gr19, 0, none⟩) s1.length cfv15u)).setCell ⟨w.heap.size + 1 + 1, 2, none⟩ (.slice aa79 s1.length cc80)).heap.size := qB b10
   have z_b2 : w.heap.size + 1 < (((w7.setCell ⟨w.heap.size + 1 + 1, 0, none⟩ (.int .i64 0)).setCell ⟨w.heap.size + 1 + 1, 1, none⟩ (.slice (some ⟨gr19, 0, none⟩) s1.length cfv15u)).setCell ⟨w.heap.size + 1 + 1, 2, none⟩ (.slice aa79 s1.length cc80)).heap.size := qB b20
   have z_b3 : w.heap.size + 1 + 1 < (((w7.setCell ⟨w.heap.size + 1 + 1, 0, none⟩ (.int .i64 0)).setCell ⟨w.heap.size + 1 + 1, 1, none⟩ (.slice (some ⟨gr19, 0, none⟩) s1.length cfv15u)).setCell ⟨w.heap.size + 1 + 1, 2, none⟩ (.slice aa79 s1.length cc80)).heap.size := qB b30
   have z_b25 : w3.heap.size < (((w7.setCell ⟨w.heap.size + 1 + 1, 0, none⟩ (.int .i64 0)).setCell ⟨w.heap.size + 1 + 1, 1, none⟩ (.slice (some ⟨gr19, 0, none⟩) s1.length cfv15u)).setCell ⟨w.heap.size + 1 + 1, 2, none⟩ (.slice aa79 s1.length cc80)).heap.size := qB b250
   have s_w8 : w.heap.size ≤ (((w7.setCell ⟨w.heap.size + 1 + 1, 0, none⟩ (.int .i64 0)).setCell ⟨w.heap.size + 1 + 1, 1, none⟩ (.slice (some ⟨gr19, 0, none⟩) s1.length cfv15u)).setCell ⟨w.heap.size + 1 + 1, 2, none⟩ (.slice aa79 s1.length cc80)).heap.size := Xw8.size
   generalize (((w7.setCell ⟨w.heap.size + 1 + 1, 0, none⟩ (.int .i64 0)).setCell ⟨w.heap.size + 1 + 1, 1, none⟩ (.slice (some ⟨gr19, 0, none⟩) s1.length cfv15u)).setCell ⟨w.heap.size + 1 + 1, 2, none⟩ (.slice aa79 s1.length cc80)) = w8 at *
   refine bodyPost_ret (v := .agg #[.int .i64 0, .slice (some ⟨gr19, 0, none⟩) s1.length cfv15u, .slice aa79 s1.length cc80]) (by simp only [results, Try.results104]; go_simp) rfl ?_
   obtain ⟨hpB, hpT⟩ := cut_prog (b := b1) (e := toI v7 T B ht) hsm.out hDN (sliceB_in hsl.out).2.2.2 hL.out (rfl : t1.getD D 0 = t1.getD D 0)
   have qB := hpB (b1) (by left; omega)
   have qT := hpT (0) (by rw [if_neg (by omega)])
   rw [show idxS (s1.getD D 0) F T B hf ht = L by rw [hv7.out]; exact hL.out, qB, qT]
   refine ⟨.slice (some ⟨gr19, 0, none⟩) s1.length cfv15u, .slice aa79 s1.length cc80, ?_, (O17.ints (by first | omega | (simp only [List.length_set]; omega))).lower (by omega), ?_, Xw8⟩
   ·
    unfold tidyB; rw [if_pos hcl77]
   ·
    unfold tidyT; rw [if_pos hcl77, List.length_set]
    exact (O78.ints (by simp; omega)).lower (by omega)
  ·
   refine (cleared_1 b1 _ _ (s1.set D (L.length : Int)) (t1.set D 0) _ _ _ ((O17.ints (by first | omega | (simp only [List.length_set]; omega))).ext qXt) ((O18.ints (by first | omega | (simp only [List.length_set]; omega))).ext qXt) hcl77).mono ?_
   rintro e w7 ⟨rfl, xw7⟩
   have Lw7 : Ext w6 w7 := Ext.trans qXt xw7
   have Xw7 : Ext w w7 := Xw6.trans Lw7
   replace b10 := Lw7.cell b10
   replace b11 := Lw7.cell b11
   replace b12 := Lw7.cell b12
   replace b20 := Lw7.cell b20
   replace b21 := Lw7.cell b21
   replace b22 := Lw7.cell b22
   replace b23 := Lw7.cell b23
   replace b24 := Lw7.cell b24
   replace b30 := Lw7.cell b30
   replace b31 := Lw7.cell b31
   replace b32 := Lw7.cell b32
   replace f_b30 := Lw7.frz z_b3 f_b30
   replace f_b31 := Lw7.frz z_b3 f_b31
   replace f_b32 := Lw7.frz z_b3 f_b32
   replace b250 := Lw7.cell b250
   replace b251 := Lw7.cell b251
   replace b252 := Lw7.cell b252
   replace f_b250 := Lw7.frz z_b25 f_b250
   replace f_b251 := Lw7.frz z_b25 f_b251
   replace f_b252 := Lw7.frz z_b25 f_b252
   have z_b1 : w.heap.size < w7.heap.size := qB b10
   have z_b2 : w.heap.size + 1 < w7.heap.size := qB b20
   have z_b3 : w.heap.size + 1 + 1 < w7.heap.size := qB b30
   have z_b25 : w3.heap.size < w7.heap.size := qB b250
   replace i12 := i12.ext Lw7
   replace O17 := O17.ext Lw7
   replace O18 := O18.ext Lw7
   have s_w7 : w.heap.size ≤ w7.heap.size := Xw7.size
   have BL14_w7 : Ext w2 w7 := BL14_w6.trans Lw7
   clear xw7
   go_wp2_with fail
   have Kw8 : Chg (w.heap.size + 1 + 1) (w.heap.size + 1 + 1 + 1) w7 (((w7.setCell ⟨w.heap.size + 1 + 1, 0, none⟩ (.int .i64 b1)).setCell ⟨w.heap.size + 1 + 1, 1, none⟩ (.slice (some ⟨gr19, 0, none⟩) s1.length cfv15u)).setCell ⟨w.heap.size + 1 + 1, 2, none⟩ (.slice (some ⟨gr20, 0, none⟩) t1.length cfv15v)) := (Chg.setCell (p := ⟨w.heap.size + 1 + 1, 2, none⟩) (Chg.setCell (p := ⟨w.heap.size + 1 + 1, 1, none⟩) (Chg.setCell (p := ⟨w.heap.size + 1 + 1, 0, none⟩) (Chg.refl (w.heap.size + 1 + 1) (w.heap.size + 1 + 1 + 1) _) (Nat.le_refl _) (Nat.lt_succ_self _) (.int .i64 b1)) (Nat.le_refl _) (Nat.lt_succ_self _) (.slice (some ⟨gr19, 0, none⟩) s1.length cfv15u)) (Nat.le_refl _) (Nat.lt_succ_self _) (.slice (some ⟨gr20, 0, none⟩) t1.length cfv15v))
   have Xw8 : Ext w (((w7.setCell ⟨w.heap.size + 1 + 1, 0, none⟩ (.int .i64 b1)).setCell ⟨w.heap.size + 1 + 1, 1, none⟩ (.slice (some ⟨gr19, 0, none⟩) s1.length cfv15u)).setCell ⟨w.heap.size + 1 + 1, 2, none⟩ (.slice (some ⟨gr20, 0, none⟩) t1.length cfv15v)) := (Ext.setCell (p := ⟨w.heap.size + 1 + 1, 2, none⟩) (Ext.setCell (p := ⟨w.heap.size + 1 + 1, 1, none⟩) (Ext.setCell (p := ⟨w.heap.size + 1 + 1, 0, none⟩) Xw7 qSo (.int .i64 b1)) qSo (.slice (some ⟨gr19, 0, none⟩) s1.length cfv15u)) qSo (.slice (some ⟨gr20, 0, none⟩) t1.length cfv15v))
   replace b10 := Kw8.cell (by omega) b10
   replace b11 := Kw8.cell (by omega) b11
   replace b12 := Kw8.cell (by omega) b12
   replace b20 := Kw8.cell (by omega) b20
   replace b21 := Kw8.cell (by omega) b21
   replace b22 := Kw8.cell (by omega) b22
   replace b23 := Kw8.cell (by omega) b23
   replace b24 := Kw8.cell (by omega) b24
   have n_b30 : (((w7.setCell ⟨w.heap.size + 1 + 1, 0, none⟩ (.int .i64 b1)).setCell ⟨w.heap.size + 1 + 1, 1, none⟩ (.slice (some ⟨gr19, 0, none⟩) s1.length cfv15u)).setCell ⟨w.heap.size + 1 + 1, 2, none⟩ (.slice (some ⟨gr20, 0, none⟩) t1.length cfv15v)).cell? ⟨w.heap.size + 1 + 1, 0, none⟩ = some (.int .i64 b1) := by go_simp
   have n_f_b30 : (((w7.setCell ⟨w.heap.size + 1 + 1, 0, none⟩ (.int .i64 b1)).setCell ⟨w.heap.size + 1 + 1, 1, none⟩ (.slice (some ⟨gr19, 0, none⟩) s1.length cfv15u)).setCell ⟨w.heap.size + 1 + 1, 2, none⟩ (.slice (some ⟨gr20, 0, none⟩) t1.length cfv15v)).frozen? ⟨w.heap.size + 1 + 1, 0, none⟩ = false := by go_simp
   have n_b31 : (((w7.setCell ⟨w.heap.size + 1 + 1, 0, none⟩ (.int .i64 b1)).setCell ⟨w.heap.size + 1 + 1, 1, none⟩ (.slice (some ⟨gr19, 0, none⟩) s1.length cfv15u)).setCell ⟨w.heap.size + 1 + 1, 2, none⟩ (.slice (some ⟨gr20, 0, none⟩) t1.length cfv15v)).cell? ⟨w.heap.size + 1 + 1, 1, none⟩ = some (.slice (some ⟨gr19, 0, none⟩) s1.length cfv15u) := by go_simp
   have n_f_b31 : (((w7.setCell ⟨w.heap.size + 1 + 1, 0, none⟩ (.int .i64 b1)).setCell ⟨w.heap.size + 1 + 1, 1, none⟩ (.slice (some ⟨gr19, 0, none⟩) s1.length cfv15u)).setCell ⟨w.heap.size + 1 + 1, 2, none⟩ (.slice (some ⟨gr20, 0, none⟩) t1.length cfv15v)).frozen? ⟨w.heap.size + 1 + 1, 1, none⟩ = false := by go_simp
   have n_b32 : (((w7.setCell ⟨w.heap.size + 1 + 1, 0, none⟩ (.int .i64 b1)).setCell ⟨w.heap.size + 1 + 1, 1, none⟩ (.slice (some ⟨gr19, 0, none⟩) s1.length cfv15u)).setCell ⟨w.heap.size + 1 + 1, 2, none⟩ (.slice (some ⟨gr20, 0, none⟩) t1.length cfv15v)).cell? ⟨w.heap.size + 1 + 1, 2, none⟩ = some (.slice (some ⟨gr20, 0, none⟩) t1.length cfv15v) := by go_simp
   have n_f_b32 : (((w7.setCell ⟨w.heap.size + 1 + 1, 0, none⟩ (.int .i64 b1)).setCell ⟨w.heap.size + 1 + 1, 1, none⟩ (.slice (some ⟨gr19, 0, none⟩) s1.length cfv15u)).setCell ⟨w.heap.size + 1 + 1, 2, none⟩ (.slice (some ⟨gr20, 0, none⟩) t1.length cfv15v)).frozen? ⟨w.heap.size + 1 + 1, 2, none⟩ = false := by go_simp
   replace b30 := n_b30
   clear n_b30
   replace f_b30 := n_f_b30
   clear n_f_b30
   replace b31 := n_b31
   clear n_b31
   replace f_b31 := n_f_b31
   clear n_f_b31
   replace b32 := n_b32
   clear n_b32
   replace f_b32 := n_f_b32
   clear n_f_b32
   replace b250 := Kw8.cell (by omega) b250
   replace f_b250 := Kw8.frzO (by omega) z_b25 f_b250
   replace b251 := Kw8.cell (by omega) b251
   replace f_b251 := Kw8.frzO (by omega) z_b25 f_b251
   replace b252 := Kw8.cell (by omega) b252
   replace f_b252 := Kw8.frzO (by omega) z_b25 f_b252
   replace i12 := i12.chg Kw8 (by omega)
   replace O17 := O17.chgN Kw8 (by omega)
   replace O18 := O18.chgN Kw8 (by omega)
   clear Kw8
   have z_b1 : w.heap.size < (((w7.setCell ⟨w.heap.size + 1 + 1, 0, none⟩ (.int .i64 b1)).setCell ⟨w.heap.size + 1 + 1, 1, none⟩ (.slice (some ⟨gr19, 0, none⟩) s1.length cfv15u)).setCell ⟨w.heap.size + 1 + 1, 2, none⟩ (.slice (some ⟨gr20, 0, none⟩) t1.length cfv15v)).heap.size := qB b10
   have z_b2 : w.heap.size + 1 < (((w7.setCell ⟨w.heap.size + 1 + 1, 0, none⟩ (.int .i64 b1)).setCell ⟨w.heap.size + 1 + 1, 1, none⟩ (.slice (some ⟨gr19, 0, none⟩) s1.length cfv15u)).setCell ⟨w.heap.size + 1 + 1, 2, none⟩ (.slice (some ⟨gr20, 0, none⟩) t1.length cfv15v)).heap.size := qB b20
   have z_b3 : w.heap.size + 1 + 1 < (((w7.setCell ⟨w.heap.size + 1 + 1, 0, none⟩ (.int .i64 b1)).setCell ⟨w.heap.size + 1 + 1, 1, none⟩ (.slice (some ⟨gr19, 0, none⟩) s1.length cfv15u)).setCell ⟨w.heap.size + 1 + 1, 2, none⟩ (.slice (some ⟨gr20, 0, none⟩) t1.length cfv15v)).heap.size := qB b30
   have z_b25 : w3.heap.size < (((w7.setCell ⟨w.heap.size + 1 + 1, 0, none⟩ (.int .i64 b1)).setCell ⟨w.heap.size + 1 + 1, 1, none⟩ (.slice (some ⟨gr19, 0, none⟩) s1.length cfv15u)).setCell ⟨w.heap.size + 1 + 1, 2, none⟩ (.slice (some ⟨gr20, 0, none⟩) t1.length cfv15v)).heap.size := qB b250
   have s_w8 : w.heap.size ≤ (((w7.setCell ⟨w.heap.size + 1 + 1, 0, none⟩ (.int .i64 b1)).setCell ⟨w.heap.size + 1 + 1, 1, none⟩ (.slice (some ⟨gr19, 0, none⟩) s1.length cfv15u)).setCell ⟨w.heap.size + 1 + 1, 2, none⟩ (.slice (some ⟨gr20, 0, none⟩) t1.length cfv15v)).heap.size := Xw8.size
   generalize (((w7.setCell ⟨w.heap.size + 1 + 1, 0, none⟩ (.int .i64 b1)).setCell ⟨w.heap.size + 1 + 1, 1, none⟩ (.slice (some ⟨gr19, 0, none⟩) s1.length cfv15u)).setCell ⟨w.heap.size + 1 + 1, 2, none⟩ (.slice (some ⟨gr20, 0, none⟩) t1.length cfv15v)) = w8 at *
   refine bodyPost_ret (v := .agg #[.int .i64 b1, .slice (some ⟨gr19, 0, none⟩) s1.length cfv15u, .slice (some ⟨gr20, 0, none⟩) t1.length cfv15v]) (by simp only [results, Try.results104]; go_simp) rfl ?_
   obtain ⟨hpB, hpT⟩ := cut_prog (b := b1) (e := toI v7 T B ht) hsm.out hDN (sliceB_in hsl.out).2.2.2 hL.out (rfl : t1.getD D 0 = t1.getD D 0)
   have qB := hpB (b1) (by left; omega)
   have qT := hpT (0) (by rw [if_neg (by omega)])
   rw [show idxS (s1.getD D 0) F T B hf ht = L by rw [hv7.out]; exact hL.out, qB, qT]
   refine ⟨.slice (some ⟨gr19, 0, none⟩) s1.length cfv15u, .slice (some ⟨gr20, 0, none⟩) t1.length cfv15v, ?_, (O17.ints (by first | omega | (simp only [List.length_set]; omega))).lower (by omega), ?_, Xw8⟩
   ·
    unfold tidyB; rw [if_neg hcl77]
   ·
    unfold tidyT; rw [if_neg hcl77]
    exact (O18.ints (by first | omega | (simp only [List.length_set]; omega))).lower (by omega)


end Go.Proofs.Ytonnnjaooifpjaa

/- Walks: SliceDim of the program. -/
namespace Go.Proofs.Ytonnnjaooifpjaa
open Go.RowKit
set_option linter.unusedVariables false
set_option maxRecDepth 100000


theorem sliceDim_e (b1 : Int) (u1 v1 : Value) (s1 t1 : List Int) (D : Nat) (F T B : Int) (hf ht : Bool) (CB : Int) (CS CT : List Int) (w : World) (l1 m1 : Nat) (h1 : Ints w l1 u1 s1) (k1 : Ints w m1 v1 t1) (hvv : viewB b1 s1 t1 = true) (hDN : D < s1.length) (hsl : sliceB F T B hf ht = true)
  (e1 : cutB b1 s1 t1 D (idxS (s1.getD D 0) F T B hf ht) = CB) (e2 : cutS s1 D (idxS (s1.getD D 0) F T B hf ht) = CS) (e3 : cutT s1 t1 D (idxS (s1.getD D 0) F T B hf ht) = CT) :
  Calls Try.prog 104 #[.agg #[.int .i64 b1, u1, v1], .int .i64 (D : Int), .agg #[.int .i64 F, .int .i64 T, .int .i64 B, .bool hf, .bool ht]] w (PVW w CB CS CT) := by
 subst e1; subst e2; subst e3
 exact sliceDim_c b1 u1 v1 s1 t1 D F T B hf ht w l1 m1 h1 k1 hvv hDN hsl
theorem slice_no0 {b : Int} {s t : List Int} {d F T B : Int} {hf ht : Bool} (h : dimB b s t d = false) : sliceV b s t d F T B hf ht = noV := by
 unfold dimB at h
 unfold sliceV
 rw [if_neg]
 intro h2
 simp only [Bool.and_eq_true] at h2
 rw [h2.1, h2.2.1] at h; cases h
theorem slice_no1 {b : Int} {s t : List Int} {d F T B : Int} {hf ht : Bool} (h : sliceB F T B hf ht = false) : sliceV b s t d F T B hf ht = noV := by
 unfold sliceV; rw [h, Bool.and_false, Bool.and_false]; rfl
theorem slice_yes {b : Int} {s t : List Int} {D : Nat} {F T B : Int} {hf ht : Bool} (h : dimB b s t (D : Int) = true) (h2 : sliceB F T B hf ht = true) :
  sliceV b s t (D : Int) F T B hf ht = (cutB b s t D (idxS (s.getD D 0) F T B hf ht), cutS s D (idxS (s.getD D 0) F T B hf ht), cutT s t D (idxS (s.getD D 0) F T B hf ht), true) := by
 unfold dimB at h
 rw [Bool.and_eq_true] at h
 unfold sliceV
 rw [if_pos (by rw [h.1, h.2, h2]; rfl), Int.toNat_natCast]

set_option maxHeartbeats 3200000 in
theorem implSliceDim_c (b1 : Int) (u1 v1 : Value) (s1 t1 : List Int) (d F T B : Int) (hf ht : Bool) (w : World) (l1 m1 : Nat) (h1 : Ints w l1 u1 s1) (k1 : Ints w m1 v1 t1) :
  Calls Try.prog 43 #[.agg #[.int .i64 b1, u1, v1], .int .i64 d, .agg #[.int .i64 F, .int .i64 T, .int .i64 B, .bool hf, .bool ht]] w (PVX w (sliceV b1 s1 t1 d F T B hf ht)) := by
 obtain ⟨p0, c0, rfl⟩ := h1.form
 obtain ⟨p1, c1, rfl⟩ := k1.form
 go_enter Try.func43, Try.ntmps43
 go_wp2_with fail
 refine (hasDim_c b1 (.slice p0 s1.length c0) (.slice p1 t1.length c1) s1 t1 d _ _ _ (h1.ext qXt) (k1.ext qXt)).mono ?_
 rintro e w1 ⟨rfl, xw1⟩
 have Lw1 : Ext w w1 := Ext.trans qXt xw1
 have Xw1 : Ext w w1 := Lw1
 have b10 : w1.cell? ⟨w.heap.size, 0, none⟩ = some (.int .i64 b1) := xw1.cell qCl
 have b11 : w1.cell? ⟨w.heap.size, 1, none⟩ = some (.slice p0 s1.length c0) := xw1.cell qCl
 have b12 : w1.cell? ⟨w.heap.size, 2, none⟩ = some (.slice p1 t1.length c1) := xw1.cell qCl
 have b20 : w1.cell? ⟨w.heap.size + 1, 0, none⟩ = some (.int .i64 F) := xw1.cell qCl
 have b21 : w1.cell? ⟨w.heap.size + 1, 1, none⟩ = some (.int .i64 T) := xw1.cell qCl
 have b22 : w1.cell? ⟨w.heap.size + 1, 2, none⟩ = some (.int .i64 B) := xw1.cell qCl
 have b23 : w1.cell? ⟨w.heap.size + 1, 3, none⟩ = some (.bool hf) := xw1.cell qCl
 have b24 : w1.cell? ⟨w.heap.size + 1, 4, none⟩ = some (.bool ht) := xw1.cell qCl
 have b30 : w1.cell? ⟨w.heap.size + 1 + 1, 0, none⟩ = some (.int .i64 0) := xw1.cell qCl
 have b31 : w1.cell? ⟨w.heap.size + 1 + 1, 1, none⟩ = some (.slice none 0 0) := xw1.cell qCl
 have b32 : w1.cell? ⟨w.heap.size + 1 + 1, 2, none⟩ = some (.slice none 0 0) := xw1.cell qCl
 have f_b30 : w1.frozen? ⟨w.heap.size + 1 + 1, 0, none⟩ = false := xw1.frz (by simp <;> omega) qFz
 have f_b31 : w1.frozen? ⟨w.heap.size + 1 + 1, 1, none⟩ = false := xw1.frz (by simp <;> omega) qFz
 have f_b32 : w1.frozen? ⟨w.heap.size + 1 + 1, 2, none⟩ = false := xw1.frz (by simp <;> omega) qFz
 have z_b1 : w.heap.size < w1.heap.size := qB b10
 have z_b2 : w.heap.size + 1 < w1.heap.size := qB b20
 have z_b3 : w.heap.size + 1 + 1 < w1.heap.size := qB b30
 have s_w1 : w.heap.size ≤ w1.heap.size := Xw1.size
 clear xw1
 cases hB4 : dimB b1 s1 t1 d
 ·
  replace hB4 := Lib.hid hB4
  go_wp2_with fail
  have Kw2 : Chg (w.heap.size + 1 + 1) (w.heap.size + 1 + 1 + 1) w1 (((w1.setCell ⟨w.heap.size + 1 + 1, 0, none⟩ (.int .i64 0)).setCell ⟨w.heap.size + 1 + 1, 1, none⟩ (.slice none 0 0)).setCell ⟨w.heap.size + 1 + 1, 2, none⟩ (.slice none 0 0)) := (Chg.setCell (p := ⟨w.heap.size + 1 + 1, 2, none⟩) (Chg.setCell (p := ⟨w.heap.size + 1 + 1, 1, none⟩) (Chg.setCell (p := ⟨w.heap.size + 1 + 1, 0, none⟩) (Chg.refl (w.heap.size + 1 + 1) (w.heap.size + 1 + 1 + 1) _) (Nat.le_refl _) (Nat.lt_succ_self _) (.int .i64 0)) (Nat.le_refl _) (Nat.lt_succ_self _) (.slice none 0 0)) (Nat.le_refl _) (Nat.lt_succ_self _) (.slice none 0 0))
  have Xw2 : Ext w (((w1.setCell ⟨w.heap.size + 1 + 1, 0, none⟩ (.int .i64 0)).setCell ⟨w.heap.size + 1 + 1, 1, none⟩ (.slice none 0 0)).setCell ⟨w.heap.size + 1 + 1, 2, none⟩ (.slice none 0 0)) := (Ext.setCell (p := ⟨w.heap.size + 1 + 1, 2, none⟩) (Ext.setCell (p := ⟨w.heap.size + 1 + 1, 1, none⟩) (Ext.setCell (p := ⟨w.heap.size + 1 + 1, 0, none⟩) Xw1 qSo (.int .i64 0)) qSo (.slice none 0 0)) qSo (.slice none 0 0))
  replace b10 := Kw2.cell (by omega) b10
  replace b11 := Kw2.cell (by omega) b11
  replace b12 := Kw2.cell (by omega) b12
  replace b20 := Kw2.cell (by omega) b20
  replace b21 := Kw2.cell (by omega) b21
  replace b22 := Kw2.cell (by omega) b22
  replace b23 := Kw2.cell (by omega) b23
  replace b24 := Kw2.cell (by omega) b24
  have n_b30 : (((w1.setCell ⟨w.heap.size + 1 + 1, 0, none⟩ (.int .i64 0)).setCell ⟨w.heap.size + 1 + 1, 1, none⟩ (.slice none 0 0)).setCell ⟨w.heap.size + 1 + 1, 2, none⟩ (.slice none 0 0)).cell? ⟨w.heap.size + 1 + 1, 0, none⟩ = some (.int .i64 0) := by go_simp
  have n_f_b30 : (((w1.setCell ⟨w.heap.size + 1 + 1, 0, none⟩ (.int .i64 0)).setCell ⟨w.heap.size + 1 + 1, 1, none⟩ (.slice none 0 0)).setCell ⟨w.heap.size + 1 + 1, 2, none⟩ (.slice none 0 0)).frozen? ⟨w.heap.size + 1 + 1, 0, none⟩ = false := by go_simp
  have n_b31 : (((w1.setCell ⟨w.heap.size + 1 + 1, 0, none⟩ (.int .i64 0)).setCell ⟨w.heap.size + 1 + 1, 1, none⟩ (.slice none 0 0)).setCell ⟨w.heap.size + 1 + 1, 2, none⟩ (.slice none 0 0)).cell? ⟨w.heap.size + 1 + 1, 1, none⟩ = some (.slice none 0 0) := by go_simp
  have n_f_b31 : (((w1.setCell ⟨w.heap.size + 1 + 1, 0, none⟩ (.int .i64 0)).setCell ⟨w.heap.size + 1 + 1, 1, none⟩ (.slice none 0 0)).setCell ⟨w.heap.size + 1 + 1, 2, none⟩ (.slice none 0 0)).frozen? ⟨w.heap.size + 1 + 1, 1, none⟩ = false := by go_simp
  have n_b32 : (((w1.setCell ⟨w.heap.size + 1 + 1, 0, none⟩ (.int .i64 0)).setCell ⟨w.heap.size + 1 + 1, 1, none⟩ (.slice none 0 0)).setCell ⟨w.heap.size + 1 + 1, 2, none⟩ (.slice none 0 0)).cell? ⟨w.heap.size + 1 + 1, 2, none⟩ = some (.slice none 0 0) := by go_simp
  have n_f_b32 : (((w1.setCell ⟨w.heap.size + 1 + 1, 0, none⟩ (.int .i64 0)).setCell ⟨w.heap.size + 1 + 1, 1, none⟩ (.slice none 0 0)).setCell ⟨w.heap.size + 1 + 1, 2, none⟩ (.slice none 0 0)).frozen? ⟨w.heap.size + 1 + 1, 2, none⟩ = false := by go_simp
  replace b30 := n_b30
  clear n_b30
  replace f_b30 := n_f_b30
  clear n_f_b30
  replace b31 := n_b31
  clear n_b31
  replace f_b31 := n_f_b31
  clear n_f_b31
  replace b32 := n_b32
  clear n_b32
  replace f_b32 := n_f_b32
  clear n_f_b32
  clear Kw2
  have z_b1 : w.heap.size < (((w1.setCell ⟨w.heap.size + 1 + 1, 0, none⟩ (.int .i64 0)).setCell ⟨w.heap.size + 1 + 1, 1, none⟩ (.slice none 0 0)).setCell ⟨w.heap.size + 1 + 1, 2, none⟩ (.slice none 0 0)).heap.size := qB b10
  have z_b2 : w.heap.size + 1 < (((w1.setCell ⟨w.heap.size + 1 + 1, 0, none⟩ (.int .i64 0)).setCell ⟨w.heap.size + 1 + 1, 1, none⟩ (.slice none 0 0)).setCell ⟨w.heap.size + 1 + 1, 2, none⟩ (.slice none 0 0)).heap.size := qB b20
  have z_b3 : w.heap.size + 1 + 1 < (((w1.setCell ⟨w.heap.size + 1 + 1, 0, none⟩ (.int .i64 0)).setCell ⟨w.heap.size + 1 + 1, 1, none⟩ (.slice none 0 0)).setCell ⟨w.heap.size + 1 + 1, 2, none⟩ (.slice none 0 0)).heap.size := qB b30
  have s_w2 : w.heap.size ≤ (((w1.setCell ⟨w.heap.size + 1 + 1, 0, none⟩ (.int .i64 0)).setCell ⟨w.heap.size + 1 + 1, 1, none⟩ (.slice none 0 0)).setCell ⟨w.heap.size + 1 + 1, 2, none⟩ (.slice none 0 0)).heap.size := Xw2.size
  generalize (((w1.setCell ⟨w.heap.size + 1 + 1, 0, none⟩ (.int .i64 0)).setCell ⟨w.heap.size + 1 + 1, 1, none⟩ (.slice none 0 0)).setCell ⟨w.heap.size + 1 + 1, 2, none⟩ (.slice none 0 0)) = w2 at *
  refine bodyPost_ret (v := .tuple #[.agg #[.int .i64 0, .slice none 0 0, .slice none 0 0], .bool false]) (by simp only [results, Try.results43]; go_simp) rfl ?_
  rw [show sliceV b1 s1 t1 d F T B hf ht = noV from slice_no0 hB4.out]
  exact PVWB.no (Xw2.trans qXt)
 ·
  replace hB4 := Lib.hid hB4
  obtain ⟨hvv, hd0, hd1⟩ := dim_in hB4.out
  obtain ⟨D, rfl⟩ : ∃ D : Nat, d = D := ⟨d.toNat, by omega⟩
  have hDN : D < s1.length := by omega
  obtain ⟨-, hts, -, ht60, -⟩ := viewB_in hvv
  have hs4 := view_small hvv
  have hs60 := Lib.hid hs4.2
  have hs4 := hs4.1
  have hDT : D < t1.length := by omega
  have ht4 : t1.length ≤ 4 := by omega
  have hdl4 : (delL s1 D).length ≤ 4 := by rw [delL_len _ _ hDN]; omega
  replace hts := Lib.hid hts
  replace ht60 := Lib.hid ht60
  replace hvv := Lib.hid hvv
  go_wp2_with fail
  refine (isSlice_c F T B hf ht _).mono ?_
  rintro e w2 ⟨rfl, xw2⟩
  have Lw2 : Ext w1 w2 := Ext.trans qXt xw2
  have Xw2 : Ext w w2 := Xw1.trans Lw2
  replace b10 := Lw2.cell b10
  replace b11 := Lw2.cell b11
  replace b12 := Lw2.cell b12
  replace b20 := Lw2.cell b20
  replace b21 := Lw2.cell b21
  replace b22 := Lw2.cell b22
  replace b23 := Lw2.cell b23
  replace b24 := Lw2.cell b24
  replace b30 := Lw2.cell b30
  replace b31 := Lw2.cell b31
  replace b32 := Lw2.cell b32
  replace f_b30 := Lw2.frz z_b3 f_b30
  replace f_b31 := Lw2.frz z_b3 f_b31
  replace f_b32 := Lw2.frz z_b3 f_b32
  have z_b1 : w.heap.size < w2.heap.size := qB b10
  have z_b2 : w.heap.size + 1 < w2.heap.size := qB b20
  have z_b3 : w.heap.size + 1 + 1 < w2.heap.size := qB b30
  have s_w2 : w.heap.size ≤ w2.heap.size := Xw2.size
  clear xw2
  cases hB5 : sliceB F T B hf ht
  ·
   replace hB5 := Lib.hid hB5
   go_wp2_with fail
   have Kw3 : Chg (w.heap.size + 1 + 1) (w.heap.size + 1 + 1 + 1) w2 (((w2.setCell ⟨w.heap.size + 1 + 1, 0, none⟩ (.int .i64 0)).setCell ⟨w.heap.size + 1 + 1, 1, none⟩ (.slice none 0 0)).setCell ⟨w.heap.size + 1 + 1, 2, none⟩ (.slice none 0 0)) := (Chg.setCell (p := ⟨w.heap.size + 1 + 1, 2, none⟩) (Chg.setCell (p := ⟨w.heap.size + 1 + 1, 1, none⟩) (Chg.setCell (p := ⟨w.heap.size + 1 + 1, 0, none⟩) (Chg.refl (w.heap.size + 1 + 1) (w.heap.size + 1 + 1 + 1) _) (Nat.le_refl _) (Nat.lt_succ_self _) (.int .i64 0)) (Nat.le_refl _) (Nat.lt_succ_self _) (.slice none 0 0)) (Nat.le_refl _) (Nat.lt_succ_self _) (.slice none 0 0))
   have Xw3 : Ext w (((w2.setCell ⟨w.heap.size + 1 + 1, 0, none⟩ (.int .i64 0)).setCell ⟨w.heap.size + 1 + 1, 1, none⟩ (.slice none 0 0)).setCell ⟨w.heap.size + 1 + 1, 2, none⟩ (.slice none 0 0)) := (Ext.setCell (p := ⟨w.heap.size + 1 + 1, 2, none⟩) (Ext.setCell (p := ⟨w.heap.size + 1 + 1, 1, none⟩) (Ext.setCell (p := ⟨w.heap.size + 1 + 1, 0, none⟩) Xw2 qSo (.int .i64 0)) qSo (.slice none 0 0)) qSo (.slice none 0 0))
   replace b10 := Kw3.cell (by omega) b10
   replace b11 := Kw3.cell (by omega) b11
   replace b12 := Kw3.cell (by omega) b12
   replace b20 := Kw3.cell (by omega) b20
   replace b21 := Kw3.cell (by omega) b21
   replace b22 := Kw3.cell (by omega) b22
   replace b23 := Kw3.cell (by omega) b23
   replace b24 := Kw3.cell (by omega) b24
   have n_b30 : (((w2.setCell ⟨w.heap.size + 1 + 1, 0, none⟩ (.int .i64 0)).setCell ⟨w.heap.size + 1 + 1, 1, none⟩ (.slice none 0 0)).setCell ⟨w.heap.size + 1 + 1, 2, none⟩ (.slice none 0 0)).cell? ⟨w.heap.size + 1 + 1, 0, none⟩ = some (.int .i64 0) := by go_simp
   have n_f_b30 : (((w2.setCell ⟨w.heap.size + 1 + 1, 0, none⟩ (.int .i64 0)).setCell ⟨w.heap.size + 1 + 1, 1, none⟩ (.slice none 0 0)).setCell ⟨w.heap.size + 1 + 1, 2, none⟩ (.slice none 0 0)).frozen? ⟨w.heap.size + 1 + 1, 0, none⟩ = false := by go_simp
   have n_b31 : (((w2.setCell ⟨w.heap.size + 1 + 1, 0, none⟩ (.int .i64 0)).setCell ⟨w.heap.size + 1 + 1, 1, none⟩ (.slice none 0 0)).setCell ⟨w.heap.size + 1 + 1, 2, none⟩ (.slice none 0 0)).cell? ⟨w.heap.size + 1 + 1, 1, none⟩ = some (.slice none 0 0) := by go_simp
   have n_f_b31 : (((w2.setCell ⟨w.heap.size + 1 + 1, 0, none⟩ (.int .i64 0)).setCell ⟨w.heap.size + 1 + 1, 1, none⟩ (.slice none 0 0)).setCell ⟨w.heap.size + 1 + 1, 2, none⟩ (.slice none 0 0)).frozen? ⟨w.heap.size + 1 + 1, 1, none⟩ = false := by go_simp
   have n_b32 : (((w2.setCell ⟨w.heap.size + 1 + 1, 0, none⟩ (.int .i64 0)).setCell ⟨w.heap.size + 1 + 1, 1, none⟩ (.slice none 0 0)).setCell ⟨w.heap.size + 1 + 1, 2, none⟩ (.slice none 0 0)).cell? ⟨w.heap.size + 1 + 1, 2, none⟩ = some (.slice none 0 0) := by go_simp
   have n_f_b32 : (((w2.setCell ⟨w.heap.size + 1 + 1, 0, none⟩ (.int .i64 0)).setCell ⟨w.heap.size + 1 + 1, 1, none⟩ (.slice none 0 0)).setCell ⟨w.heap.size + 1 + 1, 2, none⟩ (.slice none 0 0)).frozen? ⟨w.heap.size + 1 + 1, 2, none⟩ = false := by go_simp
   replace b30 := n_b30
   clear n_b30
   replace f_b30 := n_f_b30
   clear n_f_b30
   replace b31 := n_b31
   clear n_b31
   replace f_b31 := n_f_b31
   clear n_f_b31
   replace b32 := n_b32
   clear n_b32
   replace f_b32 := n_f_b32
   clear n_f_b32
   clear Kw3
   have z_b1 : w.heap.size < (((w2.setCell ⟨w.heap.size + 1 + 1, 0, none⟩ (.int .i64 0)).setCell ⟨w.heap.size + 1 + 1, 1, none⟩ (.slice none 0 0)).setCell ⟨w.heap.size + 1 + 1, 2, none⟩ (.slice none 0 0)).heap.size := qB b10
   have z_b2 : w.heap.size + 1 < (((w2.setCell ⟨w.heap.size + 1 + 1, 0, none⟩ (.int .i64 0)).setCell ⟨w.heap.size + 1 + 1, 1, none⟩ (.slice none 0 0)).setCell ⟨w.heap.size + 1 + 1, 2, none⟩ (.slice none 0 0)).heap.size := qB b20
   have z_b3 : w.heap.size + 1 + 1 < (((w2.setCell ⟨w.heap.size + 1 + 1, 0, none⟩ (.int .i64 0)).setCell ⟨w.heap.size + 1 + 1, 1, none⟩ (.slice none 0 0)).setCell ⟨w.heap.size + 1 + 1, 2, none⟩ (.slice none 0 0)).heap.size := qB b30
   have s_w3 : w.heap.size ≤ (((w2.setCell ⟨w.heap.size + 1 + 1, 0, none⟩ (.int .i64 0)).setCell ⟨w.heap.size + 1 + 1, 1, none⟩ (.slice none 0 0)).setCell ⟨w.heap.size + 1 + 1, 2, none⟩ (.slice none 0 0)).heap.size := Xw3.size
   generalize (((w2.setCell ⟨w.heap.size + 1 + 1, 0, none⟩ (.int .i64 0)).setCell ⟨w.heap.size + 1 + 1, 1, none⟩ (.slice none 0 0)).setCell ⟨w.heap.size + 1 + 1, 2, none⟩ (.slice none 0 0)) = w3 at *
   refine bodyPost_ret (v := .tuple #[.agg #[.int .i64 0, .slice none 0 0, .slice none 0 0], .bool false]) (by simp only [results, Try.results43]; go_simp) rfl ?_
   rw [show sliceV b1 s1 t1 (D : Int) F T B hf ht = noV from slice_no1 hB5.out]
   exact PVWB.no (Xw3.trans qXt)
  ·
   replace hB5 := Lib.hid hB5
   obtain ⟨CB, hCB⟩ : ∃ x, cutB b1 s1 t1 D (idxS (s1.getD D 0) F T B hf ht) = x := ⟨_, rfl⟩
   obtain ⟨CS, hCS⟩ : ∃ x, cutS s1 D (idxS (s1.getD D 0) F T B hf ht) = x := ⟨_, rfl⟩
   obtain ⟨CT, hCT⟩ : ∃ x, cutT s1 t1 D (idxS (s1.getD D 0) F T B hf ht) = x := ⟨_, rfl⟩
   replace hCB := Lib.hid hCB
   replace hCS := Lib.hid hCS
   replace hCT := Lib.hid hCT
   go_wp2_with fail
   refine (sliceDim_e b1 _ _ s1 t1 D F T B hf ht CB CS CT _ _ _ (h1.ext (Xw2.trans qXt)) (k1.ext (Xw2.trans qXt)) hvv.out hDN hB5.out hCB.out hCS.out hCT.out).mono ?_
   rintro e w3 ⟨fv6u, fv6v, rfl, i7u, i7v, xw3⟩
   have Lw3 : Ext w2 w3 := Ext.trans qXt xw3
   have Xw3 : Ext w w3 := Xw2.trans Lw3
   replace b10 := Lw3.cell b10
   replace b11 := Lw3.cell b11
   replace b12 := Lw3.cell b12
   replace b20 := Lw3.cell b20
   replace b21 := Lw3.cell b21
   replace b22 := Lw3.cell b22
   replace b23 := Lw3.cell b23
   replace b24 := Lw3.cell b24
   replace b30 := Lw3.cell b30
   replace b31 := Lw3.cell b31
   replace b32 := Lw3.cell b32
   replace f_b30 := Lw3.frz z_b3 f_b30
   replace f_b31 := Lw3.frz z_b3 f_b31
   replace f_b32 := Lw3.frz z_b3 f_b32
   have z_b1 : w.heap.size < w3.heap.size := qB b10
   have z_b2 : w.heap.size + 1 < w3.heap.size := qB b20
   have z_b3 : w.heap.size + 1 + 1 < w3.heap.size := qB b30
   have s_w3 : w.heap.size ≤ w3.heap.size := Xw3.size
   clear xw3
   obtain ⟨afv6u, cfv6u, rfl⟩ := i7u.form
   obtain ⟨afv6v, cfv6v, rfl⟩ := i7v.form
   go_wp2_with fail
   have Kw4 : Chg (w.heap.size + 1 + 1) (w.heap.size + 1 + 1 + 1) w3 (((w3.setCell ⟨w.heap.size + 1 + 1, 0, none⟩ (.int .i64 CB)).setCell ⟨w.heap.size + 1 + 1, 1, none⟩ (.slice afv6u CS.length cfv6u)).setCell ⟨w.heap.size + 1 + 1, 2, none⟩ (.slice afv6v CT.length cfv6v)) := (Chg.setCell (p := ⟨w.heap.size + 1 + 1, 2, none⟩) (Chg.setCell (p := ⟨w.heap.size + 1 + 1, 1, none⟩) (Chg.setCell (p := ⟨w.heap.size + 1 + 1, 0, none⟩) (Chg.refl (w.heap.size + 1 + 1) (w.heap.size + 1 + 1 + 1) _) (Nat.le_refl _) (Nat.lt_succ_self _) (.int .i64 CB)) (Nat.le_refl _) (Nat.lt_succ_self _) (.slice afv6u CS.length cfv6u)) (Nat.le_refl _) (Nat.lt_succ_self _) (.slice afv6v CT.length cfv6v))
   have Xw4 : Ext w (((w3.setCell ⟨w.heap.size + 1 + 1, 0, none⟩ (.int .i64 CB)).setCell ⟨w.heap.size + 1 + 1, 1, none⟩ (.slice afv6u CS.length cfv6u)).setCell ⟨w.heap.size + 1 + 1, 2, none⟩ (.slice afv6v CT.length cfv6v)) := (Ext.setCell (p := ⟨w.heap.size + 1 + 1, 2, none⟩) (Ext.setCell (p := ⟨w.heap.size + 1 + 1, 1, none⟩) (Ext.setCell (p := ⟨w.heap.size + 1 + 1, 0, none⟩) Xw3 qSo (.int .i64 CB)) qSo (.slice afv6u CS.length cfv6u)) qSo (.slice afv6v CT.length cfv6v))
   replace b10 := Kw4.cell (by omega) b10
   replace b11 := Kw4.cell (by omega) b11
   replace b12 := Kw4.cell (by omega) b12
   replace b20 := Kw4.cell (by omega) b20
   replace b21 := Kw4.cell (by omega) b21
   replace b22 := Kw4.cell (by omega) b22
   replace b23 := Kw4.cell (by omega) b23
   replace b24 := Kw4.cell (by omega) b24
   have n_b30 : (((w3.setCell ⟨w.heap.size + 1 + 1, 0, none⟩ (.int .i64 CB)).setCell ⟨w.heap.size + 1 + 1, 1, none⟩ (.slice afv6u CS.length cfv6u)).setCell ⟨w.heap.size + 1 + 1, 2, none⟩ (.slice afv6v CT.length cfv6v)).cell? ⟨w.heap.size + 1 + 1, 0, none⟩ = some (.int .i64 CB) := by go_simp
   have n_f_b30 : (((w3.setCell ⟨w.heap.size + 1 + 1, 0, none⟩ (.int .i64 CB)).setCell ⟨w.heap.size + 1 + 1, 1, none⟩ (.slice afv6u CS.length cfv6u)).setCell ⟨w.heap.size + 1 + 1, 2, none⟩ (.slice afv6v CT.length cfv6v)).frozen? ⟨w.heap.size + 1 + 1, 0, none⟩ = false := by go_simp
   have n_b31 : (((w3.setCell ⟨w.heap.size + 1 + 1, 0, none⟩ (.int .i64 CB)).setCell ⟨w.heap.size + 1 + 1, 1, none⟩ (.slice afv6u CS.length cfv6u)).setCell ⟨w.heap.size + 1 + 1, 2, none⟩ (.slice afv6v CT.length cfv6v)).cell? ⟨w.heap.size + 1 + 1, 1, none⟩ = some (.slice afv6u CS.length cfv6u) := by go_simp
   have n_f_b31 : (((w3.setCell ⟨w.heap.size + 1 + 1, 0, none⟩ (.int .i64 CB)).setCell ⟨w.heap.size + 1 + 1, 1, none⟩ (.slice afv6u CS.length cfv6u)).setCell ⟨w.heap.size + 1 + 1, 2, none⟩ (.slice afv6v CT.length cfv6v)).frozen? ⟨w.heap.size + 1 + 1, 1, none⟩ = false := by go_simp
   have n_b32 : (((w3.setCell ⟨w.heap.size + 1 + 1, 0, none⟩ (.int .i64 CB)).setCell ⟨w.heap.size + 1 + 1, 1, none⟩ (.slice afv6u CS.length cfv6u)).setCell ⟨w.heap.size + 1 + 1, 2, none⟩ (.slice afv6v CT.length cfv6v)).cell? ⟨w.heap.size + 1 + 1, 2, none⟩ = some (.slice afv6v CT.length cfv6v) := by go_simp
   have n_f_b32 : (((w3.setCell ⟨w.heap.size + 1 + 1, 0, none⟩ (.int .i64 CB)).setCell ⟨w.heap.size + 1 + 1, 1, none⟩ (.slice afv6u CS.length cfv6u)).setCell ⟨w.heap.size + 1 + 1, 2, none⟩ (.slice afv6v CT.length cfv6v)).frozen? ⟨w.heap.size + 1 + 1, 2, none⟩ = false := by go_simp
   replace b30 := n_b30
   clear n_b30
   replace f_b30 := n_f_b30
   clear n_f_b30
   replace b31 := n_b31
   clear n_b31
   replace f_b31 := n_f_b31
   clear n_f_b31
   replace b32 := n_b32
   clear n_b32
   replace f_b32 := n_f_b32
   clear n_f_b32
   replace i7u := i7u.chg Kw4 (by omega)
   replace i7v := i7v.chg Kw4 (by omega)
   clear Kw4
   have z_b1 : w.heap.size < (((w3.setCell ⟨w.heap.size + 1 + 1, 0, none⟩ (.int .i64 CB)).setCell ⟨w.heap.size + 1 + 1, 1, none⟩ (.slice afv6u CS.length cfv6u)).setCell ⟨w.heap.size + 1 + 1, 2, none⟩ (.slice afv6v CT.length cfv6v)).heap.size := qB b10
   have z_b2 : w.heap.size + 1 < (((w3.setCell ⟨w.heap.size + 1 + 1, 0, none⟩ (.int .i64 CB)).setCell ⟨w.heap.size + 1 + 1, 1, none⟩ (.slice afv6u CS.length cfv6u)).setCell ⟨w.heap.size + 1 + 1, 2, none⟩ (.slice afv6v CT.length cfv6v)).heap.size := qB b20
   have z_b3 : w.heap.size + 1 + 1 < (((w3.setCell ⟨w.heap.size + 1 + 1, 0, none⟩ (.int .i64 CB)).setCell ⟨w.heap.size + 1 + 1, 1, none⟩ (.slice afv6u CS.length cfv6u)).setCell ⟨w.heap.size + 1 + 1, 2, none⟩ (.slice afv6v CT.length cfv6v)).heap.size := qB b30
   have s_w4 : w.heap.size ≤ (((w3.setCell ⟨w.heap.size + 1 + 1, 0, none⟩ (.int .i64 CB)).setCell ⟨w.heap.size + 1 + 1, 1, none⟩ (.slice afv6u CS.length cfv6u)).setCell ⟨w.heap.size + 1 + 1, 2, none⟩ (.slice afv6v CT.length cfv6v)).heap.size := Xw4.size
   generalize (((w3.setCell ⟨w.heap.size + 1 + 1, 0, none⟩ (.int .i64 CB)).setCell ⟨w.heap.size + 1 + 1, 1, none⟩ (.slice afv6u CS.length cfv6u)).setCell ⟨w.heap.size + 1 + 1, 2, none⟩ (.slice afv6v CT.length cfv6v)) = w4 at *
   refine bodyPost_ret (v := .tuple #[.agg #[.int .i64 CB, .slice afv6u CS.length cfv6u, .slice afv6v CT.length cfv6v], .bool true]) (by simp only [results, Try.results43]; go_simp) rfl ?_
   rw [slice_yes hB4.out hB5.out, hCB.out, hCS.out, hCT.out]
   exact ⟨_, _, rfl, i7u.lower (by omega), i7v.lower (by omega), Xw4⟩


end Go.Proofs.Ytonnnjaooifpjaa

/- Plain laws: a picked number of a dimension, and the slice of that number alone. -/
namespace Go.Proofs.Ytonnnjaooifpjaa
open Go.RowKit
set_option linter.unusedVariables false
set_option maxRecDepth 100000

theorem numL_unit (j : Int) : numL j (j + 1) 1 = [j] := numL_one (cnt_of (n := 1) (by omega) fun k => by omega)
theorem idx_unit {e j : Int} (h0 : 0 ≤ j) (h1 : j < e) : idxS e j (j + 1) 1 true true = [j] := by
  have h2 : fromI e j 1 true = j := by unfold fromI boundI; simp; omega
  have h3 : toI e (j + 1) 1 true = j + 1 := by unfold toI boundI; simp; omega
  unfold idxS; rw [h2, h3, numL_unit]
theorem slice_unit {j : Int} (h0 : 0 ≤ j) (h1 : j ≤ 60) : sliceB j (j + 1) 1 true true = true := by
  unfold sliceB inB; simp; omega
theorem offC_unit : ∀ (s t : List Int) (d : Nat) (B : Int), d < s.length → t.length = s.length → offC B (s.set d 1) (t.set d 0) = offC B (delL s d) (delL t d)
  | e :: s, x :: t, 0, B, _, _ => by
    rw [delL_zero, delL_zero, List.set_cons_zero, List.set_cons_zero, offC_cons]; simp
  | e :: s, x :: t, d+1, B, h, hl => by
    rw [delL_succ, delL_succ, List.set_cons_succ, List.set_cons_succ, offC_cons, offC_cons, offC_unit s t d B (by simpa using h) (by simpa using hl)]
  | [], _, _, _, h, _ => by simp at h
  | _ :: _, [], _, _, _, h => by simp at h
theorem prod_unit {s : List Int} {d : Nat} (h : d < s.length) : prodL (s.set d 1) = prodL (delL s d) := by
  rw [prodL_set s d 1 h]
  unfold delL
  rw [prodL_append, Int.one_mul]
theorem pick_law {b : Int} {s t : List Int} {d x : Int} {PB : Int} {PS PT : List Int} (h : pickV b s t d x = (PB, PS, PT, true)) :
    ∃ (D : Nat) (J CB : Int) (CS CT : List Int), d = D ∧ D < s.length ∧ D < t.length ∧ s.length ≤ 4 ∧ (0 ≤ J ∧ J ≤ 60) ∧ (x < 0 → J = x + s.getD D 0) ∧ (¬ x < 0 → J = x) ∧ (0 ≤ s.getD D 0 ∧ s.getD D 0 ≤ 60) ∧
      sliceV b s t (D : Int) J (J + 1) 1 true true = (CB, CS, CT, true) ∧ offA PB PS PT = offA CB CS CT ∧ PS = delL s D := by
  by_cases hc : (dimB b s t d && (decide (-(s.getD d.toNat 0) ≤ x) && decide (x < s.getD d.toNat 0))) = true
  · have h0 := h
    unfold pickV at h
    rw [if_pos hc] at h
    simp only [Bool.and_eq_true, decide_eq_true_eq] at hc
    obtain ⟨hd, h1, h2⟩ := hc
    obtain ⟨hv, g1, g2⟩ := dim_in hd
    obtain ⟨D, rfl⟩ : ∃ D : Nat, d = D := ⟨d.toNat, by omega⟩
    rw [Int.toNat_natCast] at h h1 h2
    have hD : D < s.length := by omega
    obtain ⟨v1, v2, v3, v4, v5⟩ := viewB_in hv
    have hs := view_small hv
    have he := hs.2 _ (getD_mem hD)
    generalize hJ : (if x < 0 then x + s.getD D 0 else x) = J at h
    have hJ0 : 0 ≤ J ∧ J < s.getD D 0 := by split at hJ <;> omega
    injection h with e1 h
    injection h with e2 h
    injection h with e3 _
    have hL := idx_unit hJ0.1 hJ0.2
    have hsl := slice_unit hJ0.1 (show J ≤ 60 by omega)
    have hq : (1 : Int) ≠ 0 := by omega
    have hcv := cut_view (a := J) (e := J + 1) hv hD hq (by rw [numL_unit]; intro i hi; simp at hi; omega)
    rw [numL_unit] at hcv
    have hsv : sliceV b s t (D : Int) J (J + 1) 1 true true = (cutB b s t D [J], cutS s D [J], cutT s t D [J], true) := by
      rw [slice_yes hd hsl, hL]
    obtain ⟨pv1, pv2⟩ := pick_view hv hD hJ0.1 hJ0.2
    refine ⟨D, J, _, _, _, rfl, hD, by omega, hs.1, by omega, fun hx => by rw [if_pos hx] at hJ; exact hJ.symm, fun hx => by rw [if_neg hx] at hJ; exact hJ.symm, he, hsv, ?_, e2.symm⟩
    have hN : (normL [J]).1 = J := by
      have := (slice_first hq (numL_unit J)).1 (by simp); simpa using this
    have c1 : cutB b s t D [J] = tidyB (b + J * t.getD D 0) (s.set D 1) := by unfold cutB; rw [hN]; rfl
    have c2 : cutT s t D [J] = tidyT (s.set D 1) (t.set D 0) := by unfold cutT; rfl
    have c3 : cutS s D [J] = s.set D 1 := rfl
    have hs1 : Small (s.set D 1) := small_set hs D (by omega)
    have hcc : countL (s.set D 1) = countL (delL s D) := by rw [hs1.count.1, (del_small hs D hD).count.1, prod_unit hD]
    have hvc := hcv.1
    rw [c1, c2, c3] at hvc ⊢
    rw [← e1, ← e2, ← e3]
    unfold offA
    rw [if_pos pv1, if_pos hvc, pv2]
    by_cases hz : countL (delL s D) = 0
    · rw [if_pos hz]
      exact (List.eq_nil_of_length_eq_zero (by rw [offs_count, hcc, hz]; rfl)).symm
    · rw [if_neg hz, view_C hvc]
      unfold tidyB tidyT
      rw [if_neg (by rw [hcc]; exact hz), if_neg (by rw [hcc]; exact hz), offC_unit s t D _ hD v2]
  · unfold pickV at h
    rw [if_neg hc] at h
    simp [noV] at h
end Go.Proofs.Ytonnnjaooifpjaa

/- FnPickDim returns true for all bytes: no condition. -/
namespace Go.Proofs.Ytonnnjaooifpjaa
open Go.RowKit
set_option linter.unusedVariables false
set_option maxRecDepth 100000

set_option maxHeartbeats 6400000 in
theorem lawFnPickDim_c (a : Option Addr) (n cap : Nat) (w : World) (hb : BysIn w a n cap) :
  Calls Try.prog 7 #[.slice a n cap] w fun e w' => e = .returned (.bool true) ∧ Ext w w' := by
 have hcm := hb.1
 have hcm2 := hb.2.1
 unfold maxLen at hcm2
 go_enter Try.func7, Try.ntmps7
 by_cases hc1 : (1048576 : Int) < (n : Int)
 ·
  go_wp2_with fail
  go_ret
  exact ⟨rfl, qXo⟩
 ·
  go_wp2_with fail
  refine (drawPickDim_c a n cap _ hb).mono ?_
  rintro e w1 ⟨b, s, t, p1, p2, r1, r2, d, x, rfl, i1, i2, l1, l2, hd5, hx5, xw1⟩
  have Lw1 : Ext w w1 := Ext.trans qXt xw1
  have Xw1 : Ext w w1 := Lw1
  have s_w1 : w.heap.size ≤ w1.heap.size := Xw1.size
  clear xw1
  clear hb
  obtain ⟨PB, PS, PT, PO, hP⟩ : ∃ PB PS PT PO, pickV b s t d x = (PB, PS, PT, PO) := ⟨_, _, _, _, rfl⟩
  cases PO
  ·
   replace hP := Lib.hid hP
   go_wp2_with fail
   refine (pvx_eq hP.out (implPickDim_c b (.slice p1 s.length r1) (.slice p2 t.length r2) s t d x _ _ _ (i1.ext qXt) (i2.ext qXt) (by omega))).mono ?_
   rintro e w2 ⟨fv3u, fv3v, rfl, i4u, i4v, xw2⟩
   have Lw2 : Ext w1 w2 := Ext.trans qXt xw2
   have Xw2 : Ext w w2 := Xw1.trans Lw2
   have b20 : w2.cell? ⟨w1.heap.size, 0, none⟩ = some (.int .i64 b) := xw2.cell qCl
   have b21 : w2.cell? ⟨w1.heap.size, 1, none⟩ = some (.slice p1 s.length r1) := xw2.cell qCl
   have b22 : w2.cell? ⟨w1.heap.size, 2, none⟩ = some (.slice p2 t.length r2) := xw2.cell qCl
   have z_b2 : w1.heap.size < w2.heap.size := qB b20
   replace i1 := i1.ext Lw2
   replace i2 := i2.ext Lw2
   have s_w2 : w.heap.size ≤ w2.heap.size := Xw2.size
   clear xw2
   try simp only [World.size_alloc, World.size_drew] at i4u
   try simp only [World.size_alloc, World.size_drew] at i4v
   obtain ⟨afv3u, cfv3u, rfl⟩ := i4u.form
   obtain ⟨afv3v, cfv3v, rfl⟩ := i4v.form
   go_wp2_with fail
   refine (pvx_eq hP.out (specPickDim_c b (.slice p1 s.length r1) (.slice p2 t.length r2) s t d x _ _ _ (i1.ext qXt) (i2.ext qXt) (by omega))).mono ?_
   rintro e w3 ⟨fv6u, fv6v, rfl, i7u, i7v, xw3⟩
   have Lw3 : Ext w2 w3 := Ext.trans qXt xw3
   have Xw3 : Ext w w3 := Xw2.trans Lw3
   replace b20 := Lw3.cell b20
   replace b21 := Lw3.cell b21
   replace b22 := Lw3.cell b22
   have b50 : w3.cell? ⟨w2.heap.size, 0, none⟩ = some (.int .i64 PB) := xw3.cell qCl
   have b51 : w3.cell? ⟨w2.heap.size, 1, none⟩ = some (.slice afv3u PS.length cfv3u) := xw3.cell qCl
   have b52 : w3.cell? ⟨w2.heap.size, 2, none⟩ = some (.slice afv3v PT.length cfv3v) := xw3.cell qCl
   have z_b2 : w1.heap.size < w3.heap.size := qB b20
   have z_b5 : w2.heap.size < w3.heap.size := qB b50
   replace i1 := i1.ext Lw3
   replace i2 := i2.ext Lw3
   replace i4u := i4u.ext Lw3
   replace i4v := i4v.ext Lw3
   have s_w3 : w.heap.size ≤ w3.heap.size := Xw3.size
   clear xw3
   try simp only [World.size_alloc, World.size_drew] at i7u
   try simp only [World.size_alloc, World.size_drew] at i7v
   obtain ⟨afv6u, cfv6u, rfl⟩ := i7u.form
   obtain ⟨afv6v, cfv6v, rfl⟩ := i7v.form
   go_wp2_with fail
   refine (leqView_c PB (.slice afv3u PS.length cfv3u) (.slice afv3v PT.length cfv3v) (.slice afv6u PS.length cfv6u) (.slice afv6v PT.length cfv6v) PS PT _ _ _ _ _ (i4u.ext qXt) (i4v.ext qXt) (i7u.ext qXt) (i7v.ext qXt)).mono ?_
   rintro e w4 ⟨rfl, xw4⟩
   have Lw4 : Ext w3 w4 := Ext.trans qXt xw4
   have Xw4 : Ext w w4 := Xw3.trans Lw4
   replace b20 := Lw4.cell b20
   replace b21 := Lw4.cell b21
   replace b22 := Lw4.cell b22
   replace b50 := Lw4.cell b50
   replace b51 := Lw4.cell b51
   replace b52 := Lw4.cell b52
   have b80 : w4.cell? ⟨w3.heap.size, 0, none⟩ = some (.int .i64 PB) := xw4.cell qCl
   have b81 : w4.cell? ⟨w3.heap.size, 1, none⟩ = some (.slice afv6u PS.length cfv6u) := xw4.cell qCl
   have b82 : w4.cell? ⟨w3.heap.size, 2, none⟩ = some (.slice afv6v PT.length cfv6v) := xw4.cell qCl
   have z_b2 : w1.heap.size < w4.heap.size := qB b20
   have z_b5 : w2.heap.size < w4.heap.size := qB b50
   have z_b8 : w3.heap.size < w4.heap.size := qB b80
   replace i1 := i1.ext Lw4
   replace i2 := i2.ext Lw4
   replace i4u := i4u.ext Lw4
   replace i4v := i4v.ext Lw4
   replace i7u := i7u.ext Lw4
   replace i7v := i7v.ext Lw4
   have s_w4 : w.heap.size ≤ w4.heap.size := Xw4.size
   clear xw4
   go_wp2_with fail
   refine (leqView_c PB (.slice afv3u PS.length cfv3u) (.slice afv3v PT.length cfv3v) (.slice afv6u PS.length cfv6u) (.slice afv6v PT.length cfv6v) PS PT _ _ _ _ _ (i4u.ext qXt) (i4v.ext qXt) (i7u.ext qXt) (i7v.ext qXt)).mono ?_
   rintro e w5 ⟨rfl, xw5⟩
   have Lw5 : Ext w4 w5 := Ext.trans qXt xw5
   have Xw5 : Ext w w5 := Xw4.trans Lw5
   replace b20 := Lw5.cell b20
   replace b21 := Lw5.cell b21
   replace b22 := Lw5.cell b22
   replace b50 := Lw5.cell b50
   replace b51 := Lw5.cell b51
   replace b52 := Lw5.cell b52
   replace b80 := Lw5.cell b80
   replace b81 := Lw5.cell b81
   replace b82 := Lw5.cell b82
   have z_b2 : w1.heap.size < w5.heap.size := qB b20
   have z_b5 : w2.heap.size < w5.heap.size := qB b50
   have z_b8 : w3.heap.size < w5.heap.size := qB b80
   replace i1 := i1.ext Lw5
   replace i2 := i2.ext Lw5
   replace i4u := i4u.ext Lw5
   replace i4v := i4v.ext Lw5
   replace i7u := i7u.ext Lw5
   replace i7v := i7v.ext Lw5
   have s_w5 : w.heap.size ≤ w5.heap.size := Xw5.size
   clear xw5
   go_wp2_with fail
   go_ret
   exact ⟨rfl, (Xw5.trans qXt)⟩
  ·
   obtain ⟨D, J, CB, CS, CT, rfl, hDN, hDT, hs4, hJ0, hJn, hJp, hE0, hsv, hoff, hps⟩ := pick_law hP
   replace hsv := Lib.hid hsv
   replace hoff := Lib.hid hoff
   replace hps := Lib.hid hps
   replace hJn := Lib.hid hJn
   replace hJp := Lib.hid hJp
   replace hE0 := Lib.hid hE0
   replace hP := Lib.hid hP
   go_wp2_with fail
   refine (pvx_eq hP.out (implPickDim_c b (.slice p1 s.length r1) (.slice p2 t.length r2) s t (D : Int) x _ _ _ (i1.ext qXt) (i2.ext qXt) (by omega))).mono ?_
   rintro e w2 ⟨fv10u, fv10v, rfl, i11u, i11v, xw2⟩
   have Lw2 : Ext w1 w2 := Ext.trans qXt xw2
   have Xw2 : Ext w w2 := Xw1.trans Lw2
   have b90 : w2.cell? ⟨w1.heap.size, 0, none⟩ = some (.int .i64 b) := xw2.cell qCl
   have b91 : w2.cell? ⟨w1.heap.size, 1, none⟩ = some (.slice p1 s.length r1) := xw2.cell qCl
   have b92 : w2.cell? ⟨w1.heap.size, 2, none⟩ = some (.slice p2 t.length r2) := xw2.cell qCl
   have z_b9 : w1.heap.size < w2.heap.size := qB b90
   replace i1 := i1.ext Lw2
   replace i2 := i2.ext Lw2
   have s_w2 : w.heap.size ≤ w2.heap.size := Xw2.size
   clear xw2
   try simp only [World.size_alloc, World.size_drew] at i11u
   try simp only [World.size_alloc, World.size_drew] at i11v
   obtain ⟨afv10u, cfv10u, rfl⟩ := i11u.form
   obtain ⟨afv10v, cfv10v, rfl⟩ := i11v.form
   go_wp2_with fail
   refine (pvx_eq hP.out (specPickDim_c b (.slice p1 s.length r1) (.slice p2 t.length r2) s t (D : Int) x _ _ _ (i1.ext qXt) (i2.ext qXt) (by omega))).mono ?_
   rintro e w3 ⟨fv13u, fv13v, rfl, i14u, i14v, xw3⟩
   have Lw3 : Ext w2 w3 := Ext.trans qXt xw3
   have Xw3 : Ext w w3 := Xw2.trans Lw3
   replace b90 := Lw3.cell b90
   replace b91 := Lw3.cell b91
   replace b92 := Lw3.cell b92
   have b120 : w3.cell? ⟨w2.heap.size, 0, none⟩ = some (.int .i64 PB) := xw3.cell qCl
   have b121 : w3.cell? ⟨w2.heap.size, 1, none⟩ = some (.slice afv10u PS.length cfv10u) := xw3.cell qCl
   have b122 : w3.cell? ⟨w2.heap.size, 2, none⟩ = some (.slice afv10v PT.length cfv10v) := xw3.cell qCl
   have z_b9 : w1.heap.size < w3.heap.size := qB b90
   have z_b12 : w2.heap.size < w3.heap.size := qB b120
   replace i1 := i1.ext Lw3
   replace i2 := i2.ext Lw3
   replace i11u := i11u.ext Lw3
   replace i11v := i11v.ext Lw3
   have s_w3 : w.heap.size ≤ w3.heap.size := Xw3.size
   clear xw3
   try simp only [World.size_alloc, World.size_drew] at i14u
   try simp only [World.size_alloc, World.size_drew] at i14v
   obtain ⟨afv13u, cfv13u, rfl⟩ := i14u.form
   obtain ⟨afv13v, cfv13v, rfl⟩ := i14v.form
   go_wp2_with fail
   refine (leqView_c PB (.slice afv10u PS.length cfv10u) (.slice afv10v PT.length cfv10v) (.slice afv13u PS.length cfv13u) (.slice afv13v PT.length cfv13v) PS PT _ _ _ _ _ (i11u.ext qXt) (i11v.ext qXt) (i14u.ext qXt) (i14v.ext qXt)).mono ?_
   rintro e w4 ⟨rfl, xw4⟩
   have Lw4 : Ext w3 w4 := Ext.trans qXt xw4
   have Xw4 : Ext w w4 := Xw3.trans Lw4
   replace b90 := Lw4.cell b90
   replace b91 := Lw4.cell b91
   replace b92 := Lw4.cell b92
   replace b120 := Lw4.cell b120
   replace b121 := Lw4.cell b121
   replace b122 := Lw4.cell b122
   have b150 : w4.cell? ⟨w3.heap.size, 0, none⟩ = some (.int .i64 PB) := xw4.cell qCl
   have b151 : w4.cell? ⟨w3.heap.size, 1, none⟩ = some (.slice afv13u PS.length cfv13u) := xw4.cell qCl
   have b152 : w4.cell? ⟨w3.heap.size, 2, none⟩ = some (.slice afv13v PT.length cfv13v) := xw4.cell qCl
   have z_b9 : w1.heap.size < w4.heap.size := qB b90
   have z_b12 : w2.heap.size < w4.heap.size := qB b120
   have z_b15 : w3.heap.size < w4.heap.size := qB b150
   replace i1 := i1.ext Lw4
   replace i2 := i2.ext Lw4
   replace i11u := i11u.ext Lw4
   replace i11v := i11v.ext Lw4
   replace i14u := i14u.ext Lw4
   replace i14v := i14v.ext Lw4
   have s_w4 : w.heap.size ≤ w4.heap.size := Xw4.size
   clear xw4
   by_cases hc16 : (x : Int) < (0 : Int)
   ·
    have hN_e19 : D < s.length := hDN
    have hI_e19 : (D : Int) < (s.length : Int) := by omega
    obtain ⟨bl17, ol18, rfl, e190⟩ := i1.at D hDN
    obtain ⟨v20, hv20⟩ : ∃ v, s.getD D 0 = v := ⟨_, rfl⟩
    rw [hv20] at e190
    replace hv20 := Lib.hid hv20
    have y_e19 : bl17 < w4.heap.size := qB e190
    have z_e19 := y_e19
    have hE1 := hE0.out
    rw [hv20.out] at hE1
    go_wp2_with fail
    refine (pvx_eq (show sliceV b s t (D : Int) (x + v20) ((x + v20) + 1) 1 true true = (CB, CS, CT, true) from by rw [show ((x + v20) + 1) = J + 1 from by rw [← (show x + v20 = J by have h7 := hJn.out (by omega); rw [hv20.out] at h7; omega)], (show x + v20 = J by have h7 := hJn.out (by omega); rw [hv20.out] at h7; omega)]; exact hsv.out) (implSliceDim_c b _ _ s t (D : Int) (x + v20) ((x + v20) + 1) 1 true true _ _ _ (i1.ext qXt) (i2.ext qXt))).mono ?_
    rintro e w5 ⟨fv21u, fv21v, rfl, i22u, i22v, xw5⟩
    have Lw5 : Ext w4 w5 := Ext.trans qXt xw5
    have Xw5 : Ext w w5 := Xw4.trans Lw5
    replace b90 := Lw5.cell b90
    replace b91 := Lw5.cell b91
    replace b92 := Lw5.cell b92
    replace b120 := Lw5.cell b120
    replace b121 := Lw5.cell b121
    replace b122 := Lw5.cell b122
    replace b150 := Lw5.cell b150
    replace b151 := Lw5.cell b151
    replace b152 := Lw5.cell b152
    replace e190 := Lw5.cell e190
    have z_b9 : w1.heap.size < w5.heap.size := qB b90
    have z_b12 : w2.heap.size < w5.heap.size := qB b120
    have z_b15 : w3.heap.size < w5.heap.size := qB b150
    have z_e19 : bl17 < w5.heap.size := qB e190
    replace i1 := i1.ext Lw5
    replace i2 := i2.ext Lw5
    replace i11u := i11u.ext Lw5
    replace i11v := i11v.ext Lw5
    replace i14u := i14u.ext Lw5
    replace i14v := i14v.ext Lw5
    have s_w5 : w.heap.size ≤ w5.heap.size := Xw5.size
    clear xw5
    obtain ⟨afv21u, cfv21u, rfl⟩ := i22u.form
    obtain ⟨afv21v, cfv21v, rfl⟩ := i22v.form
    go_wp2_with fail
    have Lw6 : Ext w5 (w5.alloc (.cells #[.int .i64 CB, .slice afv21u CS.length cfv21u, .slice afv21v CT.length cfv21v] 25)) := qXt
    have Xw6 : Ext w (w5.alloc (.cells #[.int .i64 CB, .slice afv21u CS.length cfv21u, .slice afv21v CT.length cfv21v] 25)) := Xw5.trans Lw6
    replace b90 := Lw6.cell b90
    replace b91 := Lw6.cell b91
    replace b92 := Lw6.cell b92
    replace b120 := Lw6.cell b120
    replace b121 := Lw6.cell b121
    replace b122 := Lw6.cell b122
    replace b150 := Lw6.cell b150
    replace b151 := Lw6.cell b151
    replace b152 := Lw6.cell b152
    replace e190 := Lw6.cell e190
    have b230 : (w5.alloc (.cells #[.int .i64 CB, .slice afv21u CS.length cfv21u, .slice afv21v CT.length cfv21v] 25)).cell? ⟨w5.heap.size, 0, none⟩ = some (.int .i64 CB) := qCl
    have b231 : (w5.alloc (.cells #[.int .i64 CB, .slice afv21u CS.length cfv21u, .slice afv21v CT.length cfv21v] 25)).cell? ⟨w5.heap.size, 1, none⟩ = some (.slice afv21u CS.length cfv21u) := qCl
    have b232 : (w5.alloc (.cells #[.int .i64 CB, .slice afv21u CS.length cfv21u, .slice afv21v CT.length cfv21v] 25)).cell? ⟨w5.heap.size, 2, none⟩ = some (.slice afv21v CT.length cfv21v) := qCl
    have z_b9 : w1.heap.size < (w5.alloc (.cells #[.int .i64 CB, .slice afv21u CS.length cfv21u, .slice afv21v CT.length cfv21v] 25)).heap.size := qB b90
    have z_b12 : w2.heap.size < (w5.alloc (.cells #[.int .i64 CB, .slice afv21u CS.length cfv21u, .slice afv21v CT.length cfv21v] 25)).heap.size := qB b120
    have z_b15 : w3.heap.size < (w5.alloc (.cells #[.int .i64 CB, .slice afv21u CS.length cfv21u, .slice afv21v CT.length cfv21v] 25)).heap.size := qB b150
    have z_e19 : bl17 < (w5.alloc (.cells #[.int .i64 CB, .slice afv21u CS.length cfv21u, .slice afv21v CT.length cfv21v] 25)).heap.size := qB e190
    have z_b23 : w5.heap.size < (w5.alloc (.cells #[.int .i64 CB, .slice afv21u CS.length cfv21u, .slice afv21v CT.length cfv21v] 25)).heap.size := qB b230
    replace i1 := i1.ext Lw6
    replace i2 := i2.ext Lw6
    replace i11u := i11u.ext Lw6
    replace i11v := i11v.ext Lw6
    replace i14u := i14u.ext Lw6
    replace i14v := i14v.ext Lw6
    replace i22u := i22u.ext Lw6
    replace i22v := i22v.ext Lw6
    have s_w6 : w.heap.size ≤ (w5.alloc (.cells #[.int .i64 CB, .slice afv21u CS.length cfv21u, .slice afv21v CT.length cfv21v] 25)).heap.size := Xw6.size
    generalize w5.alloc (.cells #[.int .i64 CB, .slice afv21u CS.length cfv21u, .slice afv21v CT.length cfv21v] 25) = w6 at *
    refine wp_region_tail (S := fun w' => w'.cell? ⟨w1.heap.size, 0, none⟩ = some (.int .i64 b) ∧ w'.cell? ⟨w1.heap.size, 1, none⟩ = some (.slice (some ⟨bl17, ol18, none⟩) s.length r1) ∧ w'.cell? ⟨w1.heap.size, 2, none⟩ = some (.slice p2 t.length r2) ∧ w'.cell? ⟨w2.heap.size, 0, none⟩ = some (.int .i64 PB) ∧ w'.cell? ⟨w2.heap.size, 1, none⟩ = some (.slice afv10u PS.length cfv10u) ∧ w'.cell? ⟨w2.heap.size, 2, none⟩ = some (.slice afv10v PT.length cfv10v) ∧ w'.cell? ⟨w3.heap.size, 0, none⟩ = some (.int .i64 PB) ∧ w'.cell? ⟨w3.heap.size, 1, none⟩ = some (.slice afv13u PS.length cfv13u) ∧ w'.cell? ⟨w3.heap.size, 2, none⟩ = some (.slice afv13v PT.length cfv13v) ∧ w'.cell? ⟨bl17, ol18 + D, none⟩ = some (.int .i64 v20) ∧ w'.cell? ⟨w5.heap.size, 0, none⟩ = some (.int .i64 CB) ∧ w'.cell? ⟨w5.heap.size, 1, none⟩ = some (.slice afv21u CS.length cfv21u) ∧ w'.cell? ⟨w5.heap.size, 2, none⟩ = some (.slice afv21v CT.length cfv21v)) (fun i => decide (18 ≤ i)) qKr ⟨b90, b91, b92, b120, b121, b122, b150, b151, b152, e190, b230, b231, b232⟩ (fun hHeld => ?_)
    refine wpTail_take (i := 0) (v := ?_) rfl qKr qKr qKr rfl qKr (fun _ _ _ h => h) (Or.inl ⟨by rfl, ?_⟩) (by assumption) ?_
    rotate_left
    ·
     (intro w hSw; (try dsimp only at hSw); go_simp; try with_reducible rfl)
    try simp only [Act.put, qA1, qA2, qA3, qA4, qA5, qA6]
    refine wpTail_take (i := 1) (v := ?_) rfl qKr qKr qKr rfl qKr (fun _ _ _ h => h) (Or.inl ⟨by rfl, ?_⟩) (by assumption) ?_
    rotate_left
    ·
     (intro w hSw; (try dsimp only at hSw); go_simp; try with_reducible rfl)
    try simp only [Act.put, qA1, qA2, qA3, qA4, qA5, qA6]
    refine wpTail_take (i := 2) (v := ?_) rfl qKr qKr qKr rfl qKr (fun _ _ _ h => h) (Or.inl ⟨by rfl, ?_⟩) (by assumption) ?_
    rotate_left
    ·
     (intro w hSw; (try dsimp only at hSw); go_simp; try with_reducible rfl)
    try simp only [Act.put, qA1, qA2, qA3, qA4, qA5, qA6]
    refine wpTail_take (i := 4) (v := ?_) rfl qKr qKr qKr rfl qKr (fun _ _ _ h => h) (Or.inl ⟨by rfl, ?_⟩) (by assumption) ?_
    rotate_left
    ·
     (intro w hSw; (try dsimp only at hSw); go_simp; try with_reducible rfl)
    try simp only [Act.put, qA1, qA2, qA3, qA4, qA5, qA6]
    refine wpTail_one (i := 3) qKr rfl rfl (fun K hK => ?_)
    try simp only [Act.put, qA1, qA2, qA3, qA4, qA5, qA6]
    go_simp
    refine (implOffsetsOf_c PB (.slice afv10u PS.length cfv10u) (.slice afv10v PT.length cfv10v) PS PT _ _ _ (i11u.ext qXt) (i11v.ext qXt)).mono ?_
    rintro e w7 ⟨fv24, rfl, i25, -, xw7⟩
    have Lw7 : Ext w6 w7 := Ext.trans qXt xw7
    have Xw7 : Ext w w7 := Xw6.trans Lw7
    replace b90 := Lw7.cell b90
    replace b91 := Lw7.cell b91
    replace b92 := Lw7.cell b92
    replace b120 := Lw7.cell b120
    replace b121 := Lw7.cell b121
    replace b122 := Lw7.cell b122
    replace b150 := Lw7.cell b150
    replace b151 := Lw7.cell b151
    replace b152 := Lw7.cell b152
    replace e190 := Lw7.cell e190
    replace b230 := Lw7.cell b230
    replace b231 := Lw7.cell b231
    replace b232 := Lw7.cell b232
    have z_b9 : w1.heap.size < w7.heap.size := qB b90
    have z_b12 : w2.heap.size < w7.heap.size := qB b120
    have z_b15 : w3.heap.size < w7.heap.size := qB b150
    have z_e19 : bl17 < w7.heap.size := qB e190
    have z_b23 : w5.heap.size < w7.heap.size := qB b230
    replace i1 := i1.ext Lw7
    replace i2 := i2.ext Lw7
    replace i11u := i11u.ext Lw7
    replace i11v := i11v.ext Lw7
    replace i14u := i14u.ext Lw7
    replace i14v := i14v.ext Lw7
    replace i22u := i22u.ext Lw7
    replace i22v := i22v.ext Lw7
    have s_w7 : w.heap.size ≤ w7.heap.size := Xw7.size
    clear xw7
    try simp only [World.size_alloc, World.size_drew] at i25
    obtain ⟨afv24, cfv24, rfl⟩ := i25.form
    refine hK.out _ _ ⟨b90, b91, b92, b120, b121, b122, b150, b151, b152, e190, b230, b231, b232⟩ (fun hHeld => ?_)
    clear hK K
    try simp only [Act.put, qA1, qA2, qA3, qA4, qA5, qA6]
    refine wpTail_one (i := 5) qKr rfl rfl (fun K hK => ?_)
    try simp only [Act.put, qA1, qA2, qA3, qA4, qA5, qA6]
    go_simp
    refine (implOffsetsOf_c CB (.slice afv21u CS.length cfv21u) (.slice afv21v CT.length cfv21v) CS CT _ _ _ (i22u.ext qXt) (i22v.ext qXt)).mono ?_
    rintro e w8 ⟨fv26, rfl, i27, -, xw8⟩
    have Lw8 : Ext w7 w8 := Ext.trans qXt xw8
    have Xw8 : Ext w w8 := Xw7.trans Lw8
    replace b90 := Lw8.cell b90
    replace b91 := Lw8.cell b91
    replace b92 := Lw8.cell b92
    replace b120 := Lw8.cell b120
    replace b121 := Lw8.cell b121
    replace b122 := Lw8.cell b122
    replace b150 := Lw8.cell b150
    replace b151 := Lw8.cell b151
    replace b152 := Lw8.cell b152
    replace e190 := Lw8.cell e190
    replace b230 := Lw8.cell b230
    replace b231 := Lw8.cell b231
    replace b232 := Lw8.cell b232
    have z_b9 : w1.heap.size < w8.heap.size := qB b90
    have z_b12 : w2.heap.size < w8.heap.size := qB b120
    have z_b15 : w3.heap.size < w8.heap.size := qB b150
    have z_e19 : bl17 < w8.heap.size := qB e190
    have z_b23 : w5.heap.size < w8.heap.size := qB b230
    replace i1 := i1.ext Lw8
    replace i2 := i2.ext Lw8
    replace i11u := i11u.ext Lw8
    replace i11v := i11v.ext Lw8
    replace i14u := i14u.ext Lw8
    replace i14v := i14v.ext Lw8
    replace i22u := i22u.ext Lw8
    replace i22v := i22v.ext Lw8
    replace i25 := i25.ext Lw8
    have s_w8 : w.heap.size ≤ w8.heap.size := Xw8.size
    clear xw8
    try simp only [World.size_alloc, World.size_drew] at i27
    obtain ⟨afv26, cfv26, rfl⟩ := i27.form
    refine hK.out _ _ ⟨b90, b91, b92, b120, b121, b122, b150, b151, b152, e190, b230, b231, b232⟩ (fun hHeld => ?_)
    clear hK K
    try simp only [Act.put, qA1, qA2, qA3, qA4, qA5, qA6]
    refine wpTail_one (i := 6) qKr rfl rfl (fun K hK => ?_)
    try simp only [Act.put, qA1, qA2, qA3, qA4, qA5, qA6]
    go_simp
    refine (leqInts_e (offA PB PS PT) (offA CB CS CT) (.slice afv24 ((offA PB PS PT).length) cfv24) (.slice afv26 ((offA CB CS CT).length) cfv26) _ _ _ (i25.ext qXt) (i27.ext qXt) hoff.out).mono ?_
    rintro e w9 ⟨rfl, xw9⟩
    have Lw9 : Ext w8 w9 := Ext.trans qXt xw9
    have Xw9 : Ext w w9 := Xw8.trans Lw9
    replace b90 := Lw9.cell b90
    replace b91 := Lw9.cell b91
    replace b92 := Lw9.cell b92
    replace b120 := Lw9.cell b120
    replace b121 := Lw9.cell b121
    replace b122 := Lw9.cell b122
    replace b150 := Lw9.cell b150
    replace b151 := Lw9.cell b151
    replace b152 := Lw9.cell b152
    replace e190 := Lw9.cell e190
    replace b230 := Lw9.cell b230
    replace b231 := Lw9.cell b231
    replace b232 := Lw9.cell b232
    have z_b9 : w1.heap.size < w9.heap.size := qB b90
    have z_b12 : w2.heap.size < w9.heap.size := qB b120
    have z_b15 : w3.heap.size < w9.heap.size := qB b150
    have z_e19 : bl17 < w9.heap.size := qB e190
    have z_b23 : w5.heap.size < w9.heap.size := qB b230
    replace i1 := i1.ext Lw9
    replace i2 := i2.ext Lw9
    replace i11u := i11u.ext Lw9
    replace i11v := i11v.ext Lw9
    replace i14u := i14u.ext Lw9
    replace i14v := i14v.ext Lw9
    replace i22u := i22u.ext Lw9
    replace i22v := i22v.ext Lw9
    replace i25 := i25.ext Lw9
    replace i27 := i27.ext Lw9
    have s_w9 : w.heap.size ≤ w9.heap.size := Xw9.size
    clear xw9
    refine hK.out _ _ ⟨b90, b91, b92, b120, b121, b122, b150, b151, b152, e190, b230, b231, b232⟩ (fun hHeld => ?_)
    clear hK K
    try simp only [Act.put, qA1, qA2, qA3, qA4, qA5, qA6]
    refine wpTail_take (i := 7) (v := ?_) rfl qKr qKr qKr rfl qKr (fun _ _ _ h => h) (Or.inl ⟨by rfl, ?_⟩) (by assumption) ?_
    rotate_left
    ·
     (intro w hSw; (try dsimp only at hSw); go_simp; try with_reducible rfl)
    try simp only [Act.put, qA1, qA2, qA3, qA4, qA5, qA6]
    refine wpTail_take (i := 8) (v := ?_) rfl qKr qKr qKr rfl qKr (fun _ _ _ h => h) (Or.inl ⟨by rfl, ?_⟩) (by assumption) ?_
    rotate_left
    ·
     (intro w hSw; (try dsimp only at hSw); go_simp; try with_reducible rfl)
    try simp only [Act.put, qA1, qA2, qA3, qA4, qA5, qA6]
    refine wpTail_take (i := 9) (v := ?_) rfl qKr qKr qKr rfl qKr (fun _ _ _ h => h) (Or.inl ⟨by rfl, ?_⟩) (by assumption) ?_
    rotate_left
    ·
     (intro w hSw; (try dsimp only at hSw); go_simp; try with_reducible rfl)
    try simp only [Act.put, qA1, qA2, qA3, qA4, qA5, qA6]
    refine wpTail_take (i := 10) (v := ?_) rfl qKr qKr qKr rfl qKr (fun _ _ _ h => h) (Or.inl ⟨by rfl, ?_⟩) (by assumption) ?_
    rotate_left
    ·
     (intro w hSw; (try dsimp only at hSw); go_simp; try with_reducible rfl)
    try simp only [Act.put, qA1, qA2, qA3, qA4, qA5, qA6]
    refine wpTail_take (i := 11) (v := ?_) rfl qKr qKr qKr rfl qKr (fun _ _ _ h => h) (Or.inl ⟨by rfl, ?_⟩) (by assumption) ?_
    rotate_left
    ·
     (intro w hSw; (try dsimp only at hSw); go_simp; try with_reducible rfl)
    try simp only [Act.put, qA1, qA2, qA3, qA4, qA5, qA6]
    refine wpTail_take (i := 12) (v := ?_) rfl qKr qKr qKr rfl qKr (fun _ _ _ h => h) (Or.inl ⟨by rfl, ?_⟩) (by assumption) ?_
    rotate_left
    ·
     (intro w hSw; (try dsimp only at hSw); go_simp; try with_reducible rfl)
    try simp only [Act.put, qA1, qA2, qA3, qA4, qA5, qA6]
    refine wpTail_take (i := 13) (v := ?_) rfl qKr qKr qKr rfl qKr (fun _ _ _ h => h) (Or.inl ⟨by rfl, ?_⟩) (by assumption) ?_
    rotate_left
    ·
     (intro w hSw; (try dsimp only at hSw); go_simp; try with_reducible rfl)
    try simp only [Act.put, qA1, qA2, qA3, qA4, qA5, qA6]
    refine wpTail_one (i := 14) qKr rfl rfl (fun K hK => ?_)
    try simp only [Act.put, qA1, qA2, qA3, qA4, qA5, qA6]
    go_simp
    refine (lwithout_c s (.slice (some ⟨bl17, ol18, none⟩) s.length r1) D _ _ (i1.ext qXt) hDN (by omega)).mono ?_
    rintro e w10 ⟨fv28, rfl, i29, -, xw10⟩
    have Lw10 : Ext w9 w10 := Ext.trans qXt xw10
    have Xw10 : Ext w w10 := Xw9.trans Lw10
    replace b90 := Lw10.cell b90
    replace b91 := Lw10.cell b91
    replace b92 := Lw10.cell b92
    replace b120 := Lw10.cell b120
    replace b121 := Lw10.cell b121
    replace b122 := Lw10.cell b122
    replace b150 := Lw10.cell b150
    replace b151 := Lw10.cell b151
    replace b152 := Lw10.cell b152
    replace e190 := Lw10.cell e190
    replace b230 := Lw10.cell b230
    replace b231 := Lw10.cell b231
    replace b232 := Lw10.cell b232
    have z_b9 : w1.heap.size < w10.heap.size := qB b90
    have z_b12 : w2.heap.size < w10.heap.size := qB b120
    have z_b15 : w3.heap.size < w10.heap.size := qB b150
    have z_e19 : bl17 < w10.heap.size := qB e190
    have z_b23 : w5.heap.size < w10.heap.size := qB b230
    replace i1 := i1.ext Lw10
    replace i2 := i2.ext Lw10
    replace i11u := i11u.ext Lw10
    replace i11v := i11v.ext Lw10
    replace i14u := i14u.ext Lw10
    replace i14v := i14v.ext Lw10
    replace i22u := i22u.ext Lw10
    replace i22v := i22v.ext Lw10
    replace i25 := i25.ext Lw10
    replace i27 := i27.ext Lw10
    have s_w10 : w.heap.size ≤ w10.heap.size := Xw10.size
    clear xw10
    try simp only [World.size_alloc, World.size_drew] at i29
    obtain ⟨afv28, cfv28, rfl⟩ := i29.form
    refine hK.out _ _ ⟨b90, b91, b92, b120, b121, b122, b150, b151, b152, e190, b230, b231, b232⟩ (fun hHeld => ?_)
    clear hK K
    try simp only [Act.put, qA1, qA2, qA3, qA4, qA5, qA6]
    refine wpTail_one (i := 15) qKr rfl rfl (fun K hK => ?_)
    try simp only [Act.put, qA1, qA2, qA3, qA4, qA5, qA6]
    go_simp
    refine (leqInts_e PS (delL s D) (.slice afv10u PS.length cfv10u) (.slice afv28 ((delL s D).length) cfv28) _ _ _ (i11u.ext qXt) (i29.ext qXt) hps.out).mono ?_
    rintro e w11 ⟨rfl, xw11⟩
    have Lw11 : Ext w10 w11 := Ext.trans qXt xw11
    have Xw11 : Ext w w11 := Xw10.trans Lw11
    replace b90 := Lw11.cell b90
    replace b91 := Lw11.cell b91
    replace b92 := Lw11.cell b92
    replace b120 := Lw11.cell b120
    replace b121 := Lw11.cell b121
    replace b122 := Lw11.cell b122
    replace b150 := Lw11.cell b150
    replace b151 := Lw11.cell b151
    replace b152 := Lw11.cell b152
    replace e190 := Lw11.cell e190
    replace b230 := Lw11.cell b230
    replace b231 := Lw11.cell b231
    replace b232 := Lw11.cell b232
    have z_b9 : w1.heap.size < w11.heap.size := qB b90
    have z_b12 : w2.heap.size < w11.heap.size := qB b120
    have z_b15 : w3.heap.size < w11.heap.size := qB b150
    have z_e19 : bl17 < w11.heap.size := qB e190
    have z_b23 : w5.heap.size < w11.heap.size := qB b230
    replace i1 := i1.ext Lw11
    replace i2 := i2.ext Lw11
    replace i11u := i11u.ext Lw11
    replace i11v := i11v.ext Lw11
    replace i14u := i14u.ext Lw11
    replace i14v := i14v.ext Lw11
    replace i22u := i22u.ext Lw11
    replace i22v := i22v.ext Lw11
    replace i25 := i25.ext Lw11
    replace i27 := i27.ext Lw11
    replace i29 := i29.ext Lw11
    have s_w11 : w.heap.size ≤ w11.heap.size := Xw11.size
    clear xw11
    refine hK.out _ _ ⟨b90, b91, b92, b120, b121, b122, b150, b151, b152, e190, b230, b231, b232⟩ (fun hHeld => ?_)
    clear hK K
    try simp only [Act.put, qA1, qA2, qA3, qA4, qA5, qA6]
    refine wpTail_take (i := 16) (v := ?_) rfl qKr qKr qKr rfl qKr (fun _ _ _ h => h) (Or.inl ⟨by rfl, ?_⟩) (by assumption) ?_
    rotate_left
    ·
     (intro w hSw; (try dsimp only at hSw); go_simp; try with_reducible rfl)
    try simp only [Act.put, qA1, qA2, qA3, qA4, qA5, qA6]
    refine wpTail_take (i := 17) (v := ?_) rfl qKr qKr qKr rfl qKr (fun _ _ _ h => h) (Or.inl ⟨by rfl, ?_⟩) (by assumption) ?_
    rotate_left
    ·
     (intro w hSw; (try dsimp only at hSw); go_simp; try with_reducible rfl)
    try simp only [Act.put, qA1, qA2, qA3, qA4, qA5, qA6]
    refine wpTail_done qKr ?_ _
    clear hHeld 
    go_wp2_with fail
    go_ret
    exact ⟨rfl, (Xw11.trans qXt)⟩
   ·
    go_wp2_with fail
    refine (pvx_eq (show sliceV b s t (D : Int) (x) (x + 1) 1 true true = (CB, CS, CT, true) from by rw [show (x + 1) = J + 1 from by rw [← (show x = J by have h7 := hJp.out (by omega); omega)], (show x = J by have h7 := hJp.out (by omega); omega)]; exact hsv.out) (implSliceDim_c b _ _ s t (D : Int) (x) (x + 1) 1 true true _ _ _ (i1.ext qXt) (i2.ext qXt))).mono ?_
    rintro e w5 ⟨fv30u, fv30v, rfl, i31u, i31v, xw5⟩
    have Lw5 : Ext w4 w5 := Ext.trans qXt xw5
    have Xw5 : Ext w w5 := Xw4.trans Lw5
    replace b90 := Lw5.cell b90
    replace b91 := Lw5.cell b91
    replace b92 := Lw5.cell b92
    replace b120 := Lw5.cell b120
    replace b121 := Lw5.cell b121
    replace b122 := Lw5.cell b122
    replace b150 := Lw5.cell b150
    replace b151 := Lw5.cell b151
    replace b152 := Lw5.cell b152
    have z_b9 : w1.heap.size < w5.heap.size := qB b90
    have z_b12 : w2.heap.size < w5.heap.size := qB b120
    have z_b15 : w3.heap.size < w5.heap.size := qB b150
    replace i1 := i1.ext Lw5
    replace i2 := i2.ext Lw5
    replace i11u := i11u.ext Lw5
    replace i11v := i11v.ext Lw5
    replace i14u := i14u.ext Lw5
    replace i14v := i14v.ext Lw5
    have s_w5 : w.heap.size ≤ w5.heap.size := Xw5.size
    clear xw5
    obtain ⟨afv30u, cfv30u, rfl⟩ := i31u.form
    obtain ⟨afv30v, cfv30v, rfl⟩ := i31v.form
    go_wp2_with fail
    have Lw6 : Ext w5 (w5.alloc (.cells #[.int .i64 CB, .slice afv30u CS.length cfv30u, .slice afv30v CT.length cfv30v] 25)) := qXt
    have Xw6 : Ext w (w5.alloc (.cells #[.int .i64 CB, .slice afv30u CS.length cfv30u, .slice afv30v CT.length cfv30v] 25)) := Xw5.trans Lw6
    replace b90 := Lw6.cell b90
    replace b91 := Lw6.cell b91
    replace b92 := Lw6.cell b92
    replace b120 := Lw6.cell b120
    replace b121 := Lw6.cell b121
    replace b122 := Lw6.cell b122
    replace b150 := Lw6.cell b150
    replace b151 := Lw6.cell b151
    replace b152 := Lw6.cell b152
    have b320 : (w5.alloc (.cells #[.int .i64 CB, .slice afv30u CS.length cfv30u, .slice afv30v CT.length cfv30v] 25)).cell? ⟨w5.heap.size, 0, none⟩ = some (.int .i64 CB) := qCl
    have b321 : (w5.alloc (.cells #[.int .i64 CB, .slice afv30u CS.length cfv30u, .slice afv30v CT.length cfv30v] 25)).cell? ⟨w5.heap.size, 1, none⟩ = some (.slice afv30u CS.length cfv30u) := qCl
    have b322 : (w5.alloc (.cells #[.int .i64 CB, .slice afv30u CS.length cfv30u, .slice afv30v CT.length cfv30v] 25)).cell? ⟨w5.heap.size, 2, none⟩ = some (.slice afv30v CT.length cfv30v) := qCl
    have z_b9 : w1.heap.size < (w5.alloc (.cells #[.int .i64 CB, .slice afv30u CS.length cfv30u, .slice afv30v CT.length cfv30v] 25)).heap.size := qB b90
    have z_b12 : w2.heap.size < (w5.alloc (.cells #[.int .i64 CB, .slice afv30u CS.length cfv30u, .slice afv30v CT.length cfv30v] 25)).heap.size := qB b120
    have z_b15 : w3.heap.size < (w5.alloc (.cells #[.int .i64 CB, .slice afv30u CS.length cfv30u, .slice afv30v CT.length cfv30v] 25)).heap.size := qB b150
    have z_b32 : w5.heap.size < (w5.alloc (.cells #[.int .i64 CB, .slice afv30u CS.length cfv30u, .slice afv30v CT.length cfv30v] 25)).heap.size := qB b320
    replace i1 := i1.ext Lw6
    replace i2 := i2.ext Lw6
    replace i11u := i11u.ext Lw6
    replace i11v := i11v.ext Lw6
    replace i14u := i14u.ext Lw6
    replace i14v := i14v.ext Lw6
    replace i31u := i31u.ext Lw6
    replace i31v := i31v.ext Lw6
    have s_w6 : w.heap.size ≤ (w5.alloc (.cells #[.int .i64 CB, .slice afv30u CS.length cfv30u, .slice afv30v CT.length cfv30v] 25)).heap.size := Xw6.size
    generalize w5.alloc (.cells #[.int .i64 CB, .slice afv30u CS.length cfv30u, .slice afv30v CT.length cfv30v] 25) = w6 at *
    refine wp_region_tail (S := fun w' => w'.cell? ⟨w1.heap.size, 0, none⟩ = some (.int .i64 b) ∧ w'.cell? ⟨w1.heap.size, 1, none⟩ = some (.slice p1 s.length r1) ∧ w'.cell? ⟨w1.heap.size, 2, none⟩ = some (.slice p2 t.length r2) ∧ w'.cell? ⟨w2.heap.size, 0, none⟩ = some (.int .i64 PB) ∧ w'.cell? ⟨w2.heap.size, 1, none⟩ = some (.slice afv10u PS.length cfv10u) ∧ w'.cell? ⟨w2.heap.size, 2, none⟩ = some (.slice afv10v PT.length cfv10v) ∧ w'.cell? ⟨w3.heap.size, 0, none⟩ = some (.int .i64 PB) ∧ w'.cell? ⟨w3.heap.size, 1, none⟩ = some (.slice afv13u PS.length cfv13u) ∧ w'.cell? ⟨w3.heap.size, 2, none⟩ = some (.slice afv13v PT.length cfv13v) ∧ w'.cell? ⟨w5.heap.size, 0, none⟩ = some (.int .i64 CB) ∧ w'.cell? ⟨w5.heap.size, 1, none⟩ = some (.slice afv30u CS.length cfv30u) ∧ w'.cell? ⟨w5.heap.size, 2, none⟩ = some (.slice afv30v CT.length cfv30v)) (fun i => decide (18 ≤ i)) qKr ⟨b90, b91, b92, b120, b121, b122, b150, b151, b152, b320, b321, b322⟩ (fun hHeld => ?_)
    refine wpTail_take (i := 0) (v := ?_) rfl qKr qKr qKr rfl qKr (fun _ _ _ h => h) (Or.inl ⟨by rfl, ?_⟩) (by assumption) ?_
    rotate_left
    ·
     (intro w hSw; (try dsimp only at hSw); go_simp; try with_reducible rfl)
    try simp only [Act.put, qA1, qA2, qA3, qA4, qA5, qA6]
    refine wpTail_take (i := 1) (v := ?_) rfl qKr qKr qKr rfl qKr (fun _ _ _ h => h) (Or.inl ⟨by rfl, ?_⟩) (by assumption) ?_
    rotate_left
    ·
     (intro w hSw; (try dsimp only at hSw); go_simp; try with_reducible rfl)
    try simp only [Act.put, qA1, qA2, qA3, qA4, qA5, qA6]
    refine wpTail_take (i := 2) (v := ?_) rfl qKr qKr qKr rfl qKr (fun _ _ _ h => h) (Or.inl ⟨by rfl, ?_⟩) (by assumption) ?_
    rotate_left
    ·
     (intro w hSw; (try dsimp only at hSw); go_simp; try with_reducible rfl)
    try simp only [Act.put, qA1, qA2, qA3, qA4, qA5, qA6]
    refine wpTail_take (i := 4) (v := ?_) rfl qKr qKr qKr rfl qKr (fun _ _ _ h => h) (Or.inl ⟨by rfl, ?_⟩) (by assumption) ?_
    rotate_left
    ·
     (intro w hSw; (try dsimp only at hSw); go_simp; try with_reducible rfl)
    try simp only [Act.put, qA1, qA2, qA3, qA4, qA5, qA6]
    refine wpTail_one (i := 3) qKr rfl rfl (fun K hK => ?_)
    try simp only [Act.put, qA1, qA2, qA3, qA4, qA5, qA6]
    go_simp
    refine (implOffsetsOf_c PB (.slice afv10u PS.length cfv10u) (.slice afv10v PT.length cfv10v) PS PT _ _ _ (i11u.ext qXt) (i11v.ext qXt)).mono ?_
    rintro e w7 ⟨fv33, rfl, i34, -, xw7⟩
    have Lw7 : Ext w6 w7 := Ext.trans qXt xw7
    have Xw7 : Ext w w7 := Xw6.trans Lw7
    replace b90 := Lw7.cell b90
    replace b91 := Lw7.cell b91
    replace b92 := Lw7.cell b92
    replace b120 := Lw7.cell b120
    replace b121 := Lw7.cell b121
    replace b122 := Lw7.cell b122
    replace b150 := Lw7.cell b150
    replace b151 := Lw7.cell b151
    replace b152 := Lw7.cell b152
    replace b320 := Lw7.cell b320
    replace b321 := Lw7.cell b321
    replace b322 := Lw7.cell b322
    have z_b9 : w1.heap.size < w7.heap.size := qB b90
    have z_b12 : w2.heap.size < w7.heap.size := qB b120
    have z_b15 : w3.heap.size < w7.heap.size := qB b150
    have z_b32 : w5.heap.size < w7.heap.size := qB b320
    replace i1 := i1.ext Lw7
    replace i2 := i2.ext Lw7
    replace i11u := i11u.ext Lw7
    replace i11v := i11v.ext Lw7
    replace i14u := i14u.ext Lw7
    replace i14v := i14v.ext Lw7
    replace i31u := i31u.ext Lw7
    replace i31v := i31v.ext Lw7
    have s_w7 : w.heap.size ≤ w7.heap.size := Xw7.size
    clear xw7
    try simp only [World.size_alloc, World.size_drew] at i34
    obtain ⟨afv33, cfv33, rfl⟩ := i34.form
    refine hK.out _ _ ⟨b90, b91, b92, b120, b121, b122, b150, b151, b152, b320, b321, b322⟩ (fun hHeld => ?_)
    clear hK K
    try simp only [Act.put, qA1, qA2, qA3, qA4, qA5, qA6]
    refine wpTail_one (i := 5) qKr rfl rfl (fun K hK => ?_)
    try simp only [Act.put, qA1, qA2, qA3, qA4, qA5, qA6]
    go_simp
    refine (implOffsetsOf_c CB (.slice afv30u CS.length cfv30u) (.slice afv30v CT.length cfv30v) CS CT _ _ _ (i31u.ext qXt) (i31v.ext qXt)).mono ?_
    rintro e w8 ⟨fv35, rfl, i36, -, xw8⟩
    have Lw8 : Ext w7 w8 := Ext.trans qXt xw8
    have Xw8 : Ext w w8 := Xw7.trans Lw8
    replace b90 := Lw8.cell b90
    replace b91 := Lw8.cell b91
    replace b92 := Lw8.cell b92
    replace b120 := Lw8.cell b120
    replace b121 := Lw8.cell b121
    replace b122 := Lw8.cell b122
    replace b150 := Lw8.cell b150
    replace b151 := Lw8.cell b151
    replace b152 := Lw8.cell b152
    replace b320 := Lw8.cell b320
    replace b321 := Lw8.cell b321
    replace b322 := Lw8.cell b322
    have z_b9 : w1.heap.size < w8.heap.size := qB b90
    have z_b12 : w2.heap.size < w8.heap.size := qB b120
    have z_b15 : w3.heap.size < w8.heap.size := qB b150
    have z_b32 : w5.heap.size < w8.heap.size := qB b320
    replace i1 := i1.ext Lw8
    replace i2 := i2.ext Lw8
    replace i11u := i11u.ext Lw8
    replace i11v := i11v.ext Lw8
    replace i14u := i14u.ext Lw8
    replace i14v := i14v.ext Lw8
    replace i31u := i31u.ext Lw8
    replace i31v := i31v.ext Lw8
    replace i34 := i34.ext Lw8
    have s_w8 : w.heap.size ≤ w8.heap.size := Xw8.size
    clear xw8
    try simp only [World.size_alloc, World.size_drew] at i36
    obtain ⟨afv35, cfv35, rfl⟩ := i36.form
    refine hK.out _ _ ⟨b90, b91, b92, b120, b121, b122, b150, b151, b152, b320, b321, b322⟩ (fun hHeld => ?_)
    clear hK K
    try simp only [Act.put, qA1, qA2, qA3, qA4, qA5, qA6]
    refine wpTail_one (i := 6) qKr rfl rfl (fun K hK => ?_)
    try simp only [Act.put, qA1, qA2, qA3, qA4, qA5, qA6]
    go_simp
    refine (leqInts_e (offA PB PS PT) (offA CB CS CT) (.slice afv33 ((offA PB PS PT).length) cfv33) (.slice afv35 ((offA CB CS CT).length) cfv35) _ _ _ (i34.ext qXt) (i36.ext qXt) hoff.out).mono ?_
    rintro e w9 ⟨rfl, xw9⟩
    have Lw9 : Ext w8 w9 := Ext.trans qXt xw9
    have Xw9 : Ext w w9 := Xw8.trans Lw9
    replace b90 := Lw9.cell b90
    replace b91 := Lw9.cell b91
    replace b92 := Lw9.cell b92
    replace b120 := Lw9.cell b120
    replace b121 := Lw9.cell b121
    replace b122 := Lw9.cell b122
    replace b150 := Lw9.cell b150
    replace b151 := Lw9.cell b151
    replace b152 := Lw9.cell b152
    replace b320 := Lw9.cell b320
    replace b321 := Lw9.cell b321
    replace b322 := Lw9.cell b322
    have z_b9 : w1.heap.size < w9.heap.size := qB b90
    have z_b12 : w2.heap.size < w9.heap.size := qB b120
    have z_b15 : w3.heap.size < w9.heap.size := qB b150
    have z_b32 : w5.heap.size < w9.heap.size := qB b320
    replace i1 := i1.ext Lw9
    replace i2 := i2.ext Lw9
    replace i11u := i11u.ext Lw9
    replace i11v := i11v.ext Lw9
    replace i14u := i14u.ext Lw9
    replace i14v := i14v.ext Lw9
    replace i31u := i31u.ext Lw9
    replace i31v := i31v.ext Lw9
    replace i34 := i34.ext Lw9
    replace i36 := i36.ext Lw9
    have s_w9 : w.heap.size ≤ w9.heap.size := Xw9.size
    clear xw9
    refine hK.out _ _ ⟨b90, b91, b92, b120, b121, b122, b150, b151, b152, b320, b321, b322⟩ (fun hHeld => ?_)
    clear hK K
    try simp only [Act.put, qA1, qA2, qA3, qA4, qA5, qA6]
    refine wpTail_take (i := 7) (v := ?_) rfl qKr qKr qKr rfl qKr (fun _ _ _ h => h) (Or.inl ⟨by rfl, ?_⟩) (by assumption) ?_
    rotate_left
    ·
     (intro w hSw; (try dsimp only at hSw); go_simp; try with_reducible rfl)
    try simp only [Act.put, qA1, qA2, qA3, qA4, qA5, qA6]
    refine wpTail_take (i := 8) (v := ?_) rfl qKr qKr qKr rfl qKr (fun _ _ _ h => h) (Or.inl ⟨by rfl, ?_⟩) (by assumption) ?_
    rotate_left
    ·
     (intro w hSw; (try dsimp only at hSw); go_simp; try with_reducible rfl)
    try simp only [Act.put, qA1, qA2, qA3, qA4, qA5, qA6]
    refine wpTail_take (i := 9) (v := ?_) rfl qKr qKr qKr rfl qKr (fun _ _ _ h => h) (Or.inl ⟨by rfl, ?_⟩) (by assumption) ?_
    rotate_left
    ·
     (intro w hSw; (try dsimp only at hSw); go_simp; try with_reducible rfl)
    try simp only [Act.put, qA1, qA2, qA3, qA4, qA5, qA6]
    refine wpTail_take (i := 10) (v := ?_) rfl qKr qKr qKr rfl qKr (fun _ _ _ h => h) (Or.inl ⟨by rfl, ?_⟩) (by assumption) ?_
    rotate_left
    ·
     (intro w hSw; (try dsimp only at hSw); go_simp; try with_reducible rfl)
    try simp only [Act.put, qA1, qA2, qA3, qA4, qA5, qA6]
    refine wpTail_take (i := 11) (v := ?_) rfl qKr qKr qKr rfl qKr (fun _ _ _ h => h) (Or.inl ⟨by rfl, ?_⟩) (by assumption) ?_
    rotate_left
    ·
     (intro w hSw; (try dsimp only at hSw); go_simp; try with_reducible rfl)
    try simp only [Act.put, qA1, qA2, qA3, qA4, qA5, qA6]
    refine wpTail_take (i := 12) (v := ?_) rfl qKr qKr qKr rfl qKr (fun _ _ _ h => h) (Or.inl ⟨by rfl, ?_⟩) (by assumption) ?_
    rotate_left
    ·
     (intro w hSw; (try dsimp only at hSw); go_simp; try with_reducible rfl)
    try simp only [Act.put, qA1, qA2, qA3, qA4, qA5, qA6]
    refine wpTail_take (i := 13) (v := ?_) rfl qKr qKr qKr rfl qKr (fun _ _ _ h => h) (Or.inl ⟨by rfl, ?_⟩) (by assumption) ?_
    rotate_left
    ·
     (intro w hSw; (try dsimp only at hSw); go_simp; try with_reducible rfl)
    try simp only [Act.put, qA1, qA2, qA3, qA4, qA5, qA6]
    refine wpTail_one (i := 14) qKr rfl rfl (fun K hK => ?_)
    try simp only [Act.put, qA1, qA2, qA3, qA4, qA5, qA6]
    go_simp
    refine (lwithout_c s (.slice p1 s.length r1) D _ _ (i1.ext qXt) hDN (by omega)).mono ?_
    rintro e w10 ⟨fv37, rfl, i38, -, xw10⟩
    have Lw10 : Ext w9 w10 := Ext.trans qXt xw10
    have Xw10 : Ext w w10 := Xw9.trans Lw10
    replace b90 := Lw10.cell b90
    replace b91 := Lw10.cell b91
    replace b92 := Lw10.cell b92
    replace b120 := Lw10.cell b120
    replace b121 := Lw10.cell b121
    replace b122 := Lw10.cell b122
    replace b150 := Lw10.cell b150
    replace b151 := Lw10.cell b151
    replace b152 := Lw10.cell b152
    replace b320 := Lw10.cell b320
    replace b321 := Lw10.cell b321
    replace b322 := Lw10.cell b322
    have z_b9 : w1.heap.size < w10.heap.size := qB b90
    have z_b12 : w2.heap.size < w10.heap.size := qB b120
    have z_b15 : w3.heap.size < w10.heap.size := qB b150
    have z_b32 : w5.heap.size < w10.heap.size := qB b320
    replace i1 := i1.ext Lw10
    replace i2 := i2.ext Lw10
    replace i11u := i11u.ext Lw10
    replace i11v := i11v.ext Lw10
    replace i14u := i14u.ext Lw10
    replace i14v := i14v.ext Lw10
    replace i31u := i31u.ext Lw10
    replace i31v := i31v.ext Lw10
    replace i34 := i34.ext Lw10
    replace i36 := i36.ext Lw10
    have s_w10 : w.heap.size ≤ w10.heap.size := Xw10.size
    clear xw10
    try simp only [World.size_alloc, World.size_drew] at i38
    obtain ⟨afv37, cfv37, rfl⟩ := i38.form
    refine hK.out _ _ ⟨b90, b91, b92, b120, b121, b122, b150, b151, b152, b320, b321, b322⟩ (fun hHeld => ?_)
    clear hK K
    try simp only [Act.put, qA1, qA2, qA3, qA4, qA5, qA6]
    refine wpTail_one (i := 15) qKr rfl rfl (fun K hK => ?_)
    try simp only [Act.put, qA1, qA2, qA3, qA4, qA5, qA6]
    go_simp
    refine (leqInts_e PS (delL s D) (.slice afv10u PS.length cfv10u) (.slice afv37 ((delL s D).length) cfv37) _ _ _ (i11u.ext qXt) (i38.ext qXt) hps.out).mono ?_
    rintro e w11 ⟨rfl, xw11⟩
    have Lw11 : Ext w10 w11 := Ext.trans qXt xw11
    have Xw11 : Ext w w11 := Xw10.trans Lw11
    replace b90 := Lw11.cell b90
    replace b91 := Lw11.cell b91
    replace b92 := Lw11.cell b92
    replace b120 := Lw11.cell b120
    replace b121 := Lw11.cell b121
    replace b122 := Lw11.cell b122
    replace b150 := Lw11.cell b150
    replace b151 := Lw11.cell b151
    replace b152 := Lw11.cell b152
    replace b320 := Lw11.cell b320
    replace b321 := Lw11.cell b321
    replace b322 := Lw11.cell b322
    have z_b9 : w1.heap.size < w11.heap.size := qB b90
    have z_b12 : w2.heap.size < w11.heap.size := qB b120
    have z_b15 : w3.heap.size < w11.heap.size := qB b150
    have z_b32 : w5.heap.size < w11.heap.size := qB b320
    replace i1 := i1.ext Lw11
    replace i2 := i2.ext Lw11
    replace i11u := i11u.ext Lw11
    replace i11v := i11v.ext Lw11
    replace i14u := i14u.ext Lw11
    replace i14v := i14v.ext Lw11
    replace i31u := i31u.ext Lw11
    replace i31v := i31v.ext Lw11
    replace i34 := i34.ext Lw11
    replace i36 := i36.ext Lw11
    replace i38 := i38.ext Lw11
    have s_w11 : w.heap.size ≤ w11.heap.size := Xw11.size
    clear xw11
    refine hK.out _ _ ⟨b90, b91, b92, b120, b121, b122, b150, b151, b152, b320, b321, b322⟩ (fun hHeld => ?_)
    clear hK K
    try simp only [Act.put, qA1, qA2, qA3, qA4, qA5, qA6]
    refine wpTail_take (i := 16) (v := ?_) rfl qKr qKr qKr rfl qKr (fun _ _ _ h => h) (Or.inl ⟨by rfl, ?_⟩) (by assumption) ?_
    rotate_left
    ·
     (intro w hSw; (try dsimp only at hSw); go_simp; try with_reducible rfl)
    try simp only [Act.put, qA1, qA2, qA3, qA4, qA5, qA6]
    refine wpTail_take (i := 17) (v := ?_) rfl qKr qKr qKr rfl qKr (fun _ _ _ h => h) (Or.inl ⟨by rfl, ?_⟩) (by assumption) ?_
    rotate_left
    ·
     (intro w hSw; (try dsimp only at hSw); go_simp; try with_reducible rfl)
    try simp only [Act.put, qA1, qA2, qA3, qA4, qA5, qA6]
    refine wpTail_done qKr ?_ _
    clear hHeld 
    go_wp2_with fail
    go_ret
    exact ⟨rfl, (Xw11.trans qXt)⟩


end Go.Proofs.Ytonnnjaooifpjaa

/- The law FnPickDim holds for all bytes: the call returns true, and its argument reads as it did. No condition. -/
namespace Go.Proofs.Ytonnnjaooifpjaa.rowFnPickDim
open Go.ChangeShapes Go.WideShapes Go.ChangeAt Go.RowKit
set_option linter.unusedVariables false

set_option maxHeartbeats 1000000 in
set_option maxRecDepth 100000 in
theorem lifted (os : Os) (started : os.Started) (H : Type) (enc : TypeId × Value → H) :
    ReturnsInHanded {} Try.checked os 7 .any (Rows.fnPickDimSpec.pre6 enc Try.prog Try.f7 Rows.fnPickDimRow.domain false) (Rows.fnPickDimSpec.post enc Try.prog Try.f7 false true false false) := by
  refine returnsInHanded_of_change (C := Try.checked) own started qKr Try.func7
    (ChangeSpec.witness6 (enc := enc) (C := Try.checked) false ⟨#[], #[.slice none 0 0], []⟩ 8 qKr qKr qKr qKr) ?_
  intro W base args ds gs before hval0 hW hcnd _
  have hval : ∀ (j : Nat) t v, Try.f7.params[j]? = some t → args[j]? = some v → Value.okWide Try.prog W .any base t v := hval0
  have hW' := hW
  obtain ⟨p, q, hA0, hV, rfl, hfz, hnd⟩ := hW
  have hA : DataW.TrodAll enc Try.prog W 0 (fun _ => true) true Try.f7.params.toList args.toList ds p := hA0
  rw [Try.params7] at hA hval
  obtain ⟨v0, vs0, d0, ds0, p0, q0, hargs0, rfl, rfl, h0, r0⟩ := trodAll_cons hA
  obtain ⟨rfl, rfl, rfl⟩ := trodAll_nil r0
  obtain rfl : args = #[v0] := by cases args; simp_all
  obtain ⟨rfl, rfl⟩ := trodVars_none hV
  obtain ⟨a0, len0, cap0, rfl⟩ := okWide_slice Try.underlying22 (hval 0 22 v0 rfl rfl)
  have k0 := h0
  have lt0 : ∀ x ∈ p0, x.block < W.heap.size := by obtain ⟨m, hm⟩ := k0; exact DataW.trod_lt m _ _ _ hm
  have w0 : BysIn W a0 len0 cap0 := by
    obtain ⟨fuel, hf⟩ := h0
    rcases open_ints Try.underlying22 Try.underlying5 qKr hf with ⟨hcs, _⟩ | ⟨x, l, c, zs, hcs, _, hl, hm, hz, _, hcell, hwz⟩
    · simp [Value.cells] at hcs
      obtain ⟨rfl, rfl, rfl⟩ := hcs
      exact ⟨Nat.le_refl _, by simp, fun i hi => absurd hi (by simp)⟩
    · simp [Value.cells] at hcs
      obtain ⟨rfl, rfl, rfl⟩ := hcs
      have hzl : zs.length = cap0 := by simpa using hz
      exact bys_of_cells hl hm hzl hcell hwz
  clear hA0 hval0
  refine (lawFnPickDim_c a0 len0 cap0 W w0).mono fun e W' ⟨he, bel⟩ => ?_
  subst he
  exact ⟨_, rfl, _, _, _, [], _, [], hW', trodAll_mk1 (shut_bool Try.underlying4 _), (trodAll_cons_mk (Below.trod laidOut qKr (of_decide_eq_true qKr) k0 bel lt0) trodAll_mk0), rfl, Below.frame bel _, fun h => by cases h⟩

set_option maxHeartbeats 2000000 in
theorem closed : joinedFacts Try.checked.prog 7 Try.f7 Rows.fnPickDimSpec Rows.fnPickDimRow = true :=
  facts.all qKr qKr qKr qKr qKr (by as_aux_lemma => kernel_rfl) (by as_aux_lemma => kernel_rfl) (by as_aux_lemma => kernel_rfl) (by as_aux_lemma => kernel_rfl)
    (by as_aux_lemma => kernel_rfl) (by as_aux_lemma => kernel_rfl) rfl rfl rfl rfl qKr qKr (by as_aux_lemma => kernel_rfl) (by as_aux_lemma => kernel_rfl)

theorem named : Try.pinned.checked.prog.funcNamed Rows.fnPickDimRow.func = some 7 := by kernel_rfl

theorem over : Rows.fnPickDimRow.holds Try.pinned (OpenSpec.ofChange Rows.fnPickDimSpec) :=
  OpenClaim.holds_of_wide 7 Try.f7 rfl rfl rfl rfl rfl rfl rfl ⟨rfl, rfl, rfl, rfl, rfl⟩ rfl rfl rfl rfl rfl named Try.func7 closed
    (of_decide_eq_true qKr) (by unfold Func.isWrapper; exact ⟨rfl, rfl⟩)
    (fun os started H enc _ => lifted os started H enc)

theorem proved : Rows.FnPickDimSaid := over

end Go.Proofs.Ytonnnjaooifpjaa.rowFnPickDim
