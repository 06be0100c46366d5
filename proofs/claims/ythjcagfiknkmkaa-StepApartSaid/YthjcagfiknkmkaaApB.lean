/- StepApart's texts: printed by wip/tools/apart.py. -/
import Derived.Test.YthjcagfiknkmkaaApA
set_option maxRecDepth 1000000
namespace Ts.apart
open Go Den
theorem kB0 (m : Nat) : KnE P (8, [q (vL 0 m) 0, q (vA 0 m) 0, .int .i64 1], vB 0 m) := pureB_ok Pok kn1_ok (fuel := 20000) (v := vB 0 m) rfl (by kernel_rfl)
theorem kH0 (n : Nat) : KnE P (8, [q (vL n 0) 0, q (vD n 0) 0, .int .i64 0], vH n 0) := pureB_ok Pok kn1_ok (fuel := 20000) (v := vH n 0) rfl (by kernel_rfl)
theorem kB1 (m : Nat) : KnE P (8, [q (vL 1 m) 0, q (vA 1 m) 0, .int .i64 1], vB 1 m) := pureB_ok Pok kn1_ok (fuel := 20000) (v := vB 1 m) rfl (by kernel_rfl)
theorem kH1 (n : Nat) : KnE P (8, [q (vL n 1) 0, q (vD n 1) 0, .int .i64 0], vH n 1) := pureB_ok Pok kn1_ok (fuel := 20000) (v := vH n 1) rfl (by kernel_rfl)
theorem kB2 (m : Nat) : KnE P (8, [q (vL 2 m) 0, q (vA 2 m) 0, .int .i64 1], vB 2 m) := pureB_ok Pok kn1_ok (fuel := 20000) (v := vB 2 m) rfl (by kernel_rfl)
theorem kH2 (n : Nat) : KnE P (8, [q (vL n 2) 0, q (vD n 2) 0, .int .i64 0], vH n 2) := pureB_ok Pok kn1_ok (fuel := 20000) (v := vH n 2) rfl (by kernel_rfl)
theorem kB3 (m : Nat) : KnE P (8, [q (vL 3 m) 0, q (vA 3 m) 0, .int .i64 1], vB 3 m) := pureB_ok Pok kn1_ok (fuel := 20000) (v := vB 3 m) rfl (by kernel_rfl)
theorem kH3 (n : Nat) : KnE P (8, [q (vL n 3) 0, q (vD n 3) 0, .int .i64 0], vH n 3) := pureB_ok Pok kn1_ok (fuel := 20000) (v := vH n 3) rfl (by kernel_rfl)
theorem kB4 (m : Nat) : KnE P (8, [q (vL 4 m) 0, q (vA 4 m) 0, .int .i64 1], vB 4 m) := pureB_ok Pok kn1_ok (fuel := 20000) (v := vB 4 m) rfl (by kernel_rfl)
theorem kH4 (n : Nat) : KnE P (8, [q (vL n 4) 0, q (vD n 4) 0, .int .i64 0], vH n 4) := pureB_ok Pok kn1_ok (fuel := 20000) (v := vH n 4) rfl (by kernel_rfl)
theorem kB5 (m : Nat) : KnE P (8, [q (vL 5 m) 0, q (vA 5 m) 0, .int .i64 1], vB 5 m) := pureB_ok Pok kn1_ok (fuel := 20000) (v := vB 5 m) rfl (by kernel_rfl)
theorem kH5 (n : Nat) : KnE P (8, [q (vL n 5) 0, q (vD n 5) 0, .int .i64 0], vH n 5) := pureB_ok Pok kn1_ok (fuel := 20000) (v := vH n 5) rfl (by kernel_rfl)
theorem kB6 (m : Nat) : KnE P (8, [q (vL 6 m) 0, q (vA 6 m) 0, .int .i64 1], vB 6 m) := pureB_ok Pok kn1_ok (fuel := 20000) (v := vB 6 m) rfl (by kernel_rfl)
theorem kH6 (n : Nat) : KnE P (8, [q (vL n 6) 0, q (vD n 6) 0, .int .i64 0], vH n 6) := pureB_ok Pok kn1_ok (fuel := 20000) (v := vH n 6) rfl (by kernel_rfl)
theorem kB7 (m : Nat) : KnE P (8, [q (vL 7 m) 0, q (vA 7 m) 0, .int .i64 1], vB 7 m) := pureB_ok Pok kn1_ok (fuel := 20000) (v := vB 7 m) rfl (by kernel_rfl)
theorem kH7 (n : Nat) : KnE P (8, [q (vL n 7) 0, q (vD n 7) 0, .int .i64 0], vH n 7) := pureB_ok Pok kn1_ok (fuel := 20000) (v := vH n 7) rfl (by kernel_rfl)
theorem kB8 (m : Nat) : KnE P (8, [q (vL 8 m) 0, q (vA 8 m) 0, .int .i64 1], vB 8 m) := pureB_ok Pok kn1_ok (fuel := 20000) (v := vB 8 m) rfl (by kernel_rfl)
theorem kH8 (n : Nat) : KnE P (8, [q (vL n 8) 0, q (vD n 8) 0, .int .i64 0], vH n 8) := pureB_ok Pok kn1_ok (fuel := 20000) (v := vH n 8) rfl (by kernel_rfl)
theorem kB : ∀ n, n < 9 → ∀ m, KnE P (8, [q (vL n m) 0, q (vA n m) 0, .int .i64 1], vB n m) := fun n h => match n, h with
  | 0, _ => kB0
  | 1, _ => kB1
  | 2, _ => kB2
  | 3, _ => kB3
  | 4, _ => kB4
  | 5, _ => kB5
  | 6, _ => kB6
  | 7, _ => kB7
  | 8, _ => kB8
  | k + 9, h => absurd h (by omega)
theorem kH : ∀ m, m < 9 → ∀ n, KnE P (8, [q (vL n m) 0, q (vD n m) 0, .int .i64 0], vH n m) := fun m h => match m, h with
  | 0, _ => kH0
  | 1, _ => kH1
  | 2, _ => kH2
  | 3, _ => kH3
  | 4, _ => kH4
  | 5, _ => kH5
  | 6, _ => kH6
  | 7, _ => kH7
  | 8, _ => kH8
  | k + 9, h => absurd h (by omega)
end Ts.apart
