/- StepApart's texts: printed by wip/tools/apart.py. -/
import Derived.Test.YthjcagfiknkmkaaApA
set_option maxRecDepth 1000000
namespace Ts.apart
open Go Den
theorem t20 : KnE P (30, [.str (tx 2 0)], vT 2 0) := fun s => (show LV.tup [encToks (tokensF (tx 2 0)).1, .int .i64 (tokensF (tx 2 0)).2.1, .int .i64 (tokensF (tx 2 0)).2.2] = vT 2 0 by kernel_rfl) ▸ tokens (tx 2 0) s
theorem p20 : KnE P (13, [.str (tx 2 0)], vP 2 0) := pureB_ok Pok (knTab_ok kn1_ok (KnOk.cons t20 .nil : KnOk P [(30, [.str (tx 2 0)], vT 2 0)])) (fuel := 20000) (v := vP 2 0) rfl (by kernel_rfl)
theorem x20 : KnE P (12, [q (vB 2 0) 0, q (vH 2 0) 0], .bool true) := pureB_ok Pok kn1_ok (fuel := 20000) (v := .bool true) rfl (by kernel_rfl)
theorem l20 : KnE P (14, [q (vP 2 0) 0], vL 2 0) := pureB_ok Pok (knTab_ok kn1_ok (KnOk.cons (kC 2 0) (.cons (kM 2 0) .nil) : KnOk P [(38, [q (vP 2 0) 0], vC 2 0), (39, [q (vP 2 0) 0], vM 2 0)])) (fuel := 20000) (v := vL 2 0) rfl (by kernel_rfl)
theorem s20 : KnE P (6, [q (vL 2 0) 0], vS 2 0) := pureB_ok Pok kn1_ok (fuel := 20000) (v := vS 2 0) rfl (by kernel_rfl)
theorem t21 : KnE P (30, [.str (tx 2 1)], vT 2 1) := fun s => (show LV.tup [encToks (tokensF (tx 2 1)).1, .int .i64 (tokensF (tx 2 1)).2.1, .int .i64 (tokensF (tx 2 1)).2.2] = vT 2 1 by kernel_rfl) ▸ tokens (tx 2 1) s
theorem p21 : KnE P (13, [.str (tx 2 1)], vP 2 1) := pureB_ok Pok (knTab_ok kn1_ok (KnOk.cons t21 .nil : KnOk P [(30, [.str (tx 2 1)], vT 2 1)])) (fuel := 20000) (v := vP 2 1) rfl (by kernel_rfl)
theorem x21 : KnE P (12, [q (vB 2 1) 0, q (vH 2 1) 0], .bool true) := pureB_ok Pok kn1_ok (fuel := 20000) (v := .bool true) rfl (by kernel_rfl)
theorem l21 : KnE P (14, [q (vP 2 1) 0], vL 2 1) := pureB_ok Pok (knTab_ok kn1_ok (KnOk.cons (kC 2 1) (.cons (kM 2 1) .nil) : KnOk P [(38, [q (vP 2 1) 0], vC 2 1), (39, [q (vP 2 1) 0], vM 2 1)])) (fuel := 20000) (v := vL 2 1) rfl (by kernel_rfl)
theorem s21 : KnE P (6, [q (vL 2 1) 0], vS 2 1) := pureB_ok Pok kn1_ok (fuel := 20000) (v := vS 2 1) rfl (by kernel_rfl)
theorem t22 : KnE P (30, [.str (tx 2 2)], vT 2 2) := fun s => (show LV.tup [encToks (tokensF (tx 2 2)).1, .int .i64 (tokensF (tx 2 2)).2.1, .int .i64 (tokensF (tx 2 2)).2.2] = vT 2 2 by kernel_rfl) ▸ tokens (tx 2 2) s
theorem p22 : KnE P (13, [.str (tx 2 2)], vP 2 2) := pureB_ok Pok (knTab_ok kn1_ok (KnOk.cons t22 .nil : KnOk P [(30, [.str (tx 2 2)], vT 2 2)])) (fuel := 20000) (v := vP 2 2) rfl (by kernel_rfl)
theorem x22 : KnE P (12, [q (vB 2 2) 0, q (vH 2 2) 0], .bool true) := pureB_ok Pok kn1_ok (fuel := 20000) (v := .bool true) rfl (by kernel_rfl)
theorem l22 : KnE P (14, [q (vP 2 2) 0], vL 2 2) := pureB_ok Pok (knTab_ok kn1_ok (KnOk.cons (kC 2 2) (.cons (kM 2 2) .nil) : KnOk P [(38, [q (vP 2 2) 0], vC 2 2), (39, [q (vP 2 2) 0], vM 2 2)])) (fuel := 20000) (v := vL 2 2) rfl (by kernel_rfl)
theorem s22 : KnE P (6, [q (vL 2 2) 0], vS 2 2) := pureB_ok Pok kn1_ok (fuel := 20000) (v := vS 2 2) rfl (by kernel_rfl)
theorem t23 : KnE P (30, [.str (tx 2 3)], vT 2 3) := fun s => (show LV.tup [encToks (tokensF (tx 2 3)).1, .int .i64 (tokensF (tx 2 3)).2.1, .int .i64 (tokensF (tx 2 3)).2.2] = vT 2 3 by kernel_rfl) ▸ tokens (tx 2 3) s
theorem p23 : KnE P (13, [.str (tx 2 3)], vP 2 3) := pureB_ok Pok (knTab_ok kn1_ok (KnOk.cons t23 .nil : KnOk P [(30, [.str (tx 2 3)], vT 2 3)])) (fuel := 20000) (v := vP 2 3) rfl (by kernel_rfl)
theorem x23 : KnE P (12, [q (vB 2 3) 0, q (vH 2 3) 0], .bool true) := pureB_ok Pok kn1_ok (fuel := 20000) (v := .bool true) rfl (by kernel_rfl)
theorem l23 : KnE P (14, [q (vP 2 3) 0], vL 2 3) := pureB_ok Pok (knTab_ok kn1_ok (KnOk.cons (kC 2 3) (.cons (kM 2 3) .nil) : KnOk P [(38, [q (vP 2 3) 0], vC 2 3), (39, [q (vP 2 3) 0], vM 2 3)])) (fuel := 20000) (v := vL 2 3) rfl (by kernel_rfl)
theorem s23 : KnE P (6, [q (vL 2 3) 0], vS 2 3) := pureB_ok Pok kn1_ok (fuel := 20000) (v := vS 2 3) rfl (by kernel_rfl)
theorem t24 : KnE P (30, [.str (tx 2 4)], vT 2 4) := fun s => (show LV.tup [encToks (tokensF (tx 2 4)).1, .int .i64 (tokensF (tx 2 4)).2.1, .int .i64 (tokensF (tx 2 4)).2.2] = vT 2 4 by kernel_rfl) ▸ tokens (tx 2 4) s
theorem p24 : KnE P (13, [.str (tx 2 4)], vP 2 4) := pureB_ok Pok (knTab_ok kn1_ok (KnOk.cons t24 .nil : KnOk P [(30, [.str (tx 2 4)], vT 2 4)])) (fuel := 20000) (v := vP 2 4) rfl (by kernel_rfl)
theorem x24 : KnE P (12, [q (vB 2 4) 0, q (vH 2 4) 0], .bool true) := pureB_ok Pok kn1_ok (fuel := 20000) (v := .bool true) rfl (by kernel_rfl)
theorem l24 : KnE P (14, [q (vP 2 4) 0], vL 2 4) := pureB_ok Pok (knTab_ok kn1_ok (KnOk.cons (kC 2 4) (.cons (kM 2 4) .nil) : KnOk P [(38, [q (vP 2 4) 0], vC 2 4), (39, [q (vP 2 4) 0], vM 2 4)])) (fuel := 20000) (v := vL 2 4) rfl (by kernel_rfl)
theorem s24 : KnE P (6, [q (vL 2 4) 0], vS 2 4) := pureB_ok Pok kn1_ok (fuel := 20000) (v := vS 2 4) rfl (by kernel_rfl)
theorem t25 : KnE P (30, [.str (tx 2 5)], vT 2 5) := fun s => (show LV.tup [encToks (tokensF (tx 2 5)).1, .int .i64 (tokensF (tx 2 5)).2.1, .int .i64 (tokensF (tx 2 5)).2.2] = vT 2 5 by kernel_rfl) ▸ tokens (tx 2 5) s
theorem p25 : KnE P (13, [.str (tx 2 5)], vP 2 5) := pureB_ok Pok (knTab_ok kn1_ok (KnOk.cons t25 .nil : KnOk P [(30, [.str (tx 2 5)], vT 2 5)])) (fuel := 20000) (v := vP 2 5) rfl (by kernel_rfl)
theorem x25 : KnE P (12, [q (vB 2 5) 0, q (vH 2 5) 0], .bool true) := pureB_ok Pok kn1_ok (fuel := 20000) (v := .bool true) rfl (by kernel_rfl)
theorem l25 : KnE P (14, [q (vP 2 5) 0], vL 2 5) := pureB_ok Pok (knTab_ok kn1_ok (KnOk.cons (kC 2 5) (.cons (kM 2 5) .nil) : KnOk P [(38, [q (vP 2 5) 0], vC 2 5), (39, [q (vP 2 5) 0], vM 2 5)])) (fuel := 20000) (v := vL 2 5) rfl (by kernel_rfl)
theorem s25 : KnE P (6, [q (vL 2 5) 0], vS 2 5) := pureB_ok Pok kn1_ok (fuel := 20000) (v := vS 2 5) rfl (by kernel_rfl)
theorem t26 : KnE P (30, [.str (tx 2 6)], vT 2 6) := fun s => (show LV.tup [encToks (tokensF (tx 2 6)).1, .int .i64 (tokensF (tx 2 6)).2.1, .int .i64 (tokensF (tx 2 6)).2.2] = vT 2 6 by kernel_rfl) ▸ tokens (tx 2 6) s
theorem p26 : KnE P (13, [.str (tx 2 6)], vP 2 6) := pureB_ok Pok (knTab_ok kn1_ok (KnOk.cons t26 .nil : KnOk P [(30, [.str (tx 2 6)], vT 2 6)])) (fuel := 20000) (v := vP 2 6) rfl (by kernel_rfl)
theorem x26 : KnE P (12, [q (vB 2 6) 0, q (vH 2 6) 0], .bool true) := pureB_ok Pok kn1_ok (fuel := 20000) (v := .bool true) rfl (by kernel_rfl)
theorem l26 : KnE P (14, [q (vP 2 6) 0], vL 2 6) := pureB_ok Pok (knTab_ok kn1_ok (KnOk.cons (kC 2 6) (.cons (kM 2 6) .nil) : KnOk P [(38, [q (vP 2 6) 0], vC 2 6), (39, [q (vP 2 6) 0], vM 2 6)])) (fuel := 20000) (v := vL 2 6) rfl (by kernel_rfl)
theorem s26 : KnE P (6, [q (vL 2 6) 0], vS 2 6) := pureB_ok Pok kn1_ok (fuel := 20000) (v := vS 2 6) rfl (by kernel_rfl)
theorem t27 : KnE P (30, [.str (tx 2 7)], vT 2 7) := fun s => (show LV.tup [encToks (tokensF (tx 2 7)).1, .int .i64 (tokensF (tx 2 7)).2.1, .int .i64 (tokensF (tx 2 7)).2.2] = vT 2 7 by kernel_rfl) ▸ tokens (tx 2 7) s
theorem p27 : KnE P (13, [.str (tx 2 7)], vP 2 7) := pureB_ok Pok (knTab_ok kn1_ok (KnOk.cons t27 .nil : KnOk P [(30, [.str (tx 2 7)], vT 2 7)])) (fuel := 20000) (v := vP 2 7) rfl (by kernel_rfl)
theorem x27 : KnE P (12, [q (vB 2 7) 0, q (vH 2 7) 0], .bool true) := pureB_ok Pok kn1_ok (fuel := 20000) (v := .bool true) rfl (by kernel_rfl)
theorem l27 : KnE P (14, [q (vP 2 7) 0], vL 2 7) := pureB_ok Pok (knTab_ok kn1_ok (KnOk.cons (kC 2 7) (.cons (kM 2 7) .nil) : KnOk P [(38, [q (vP 2 7) 0], vC 2 7), (39, [q (vP 2 7) 0], vM 2 7)])) (fuel := 20000) (v := vL 2 7) rfl (by kernel_rfl)
theorem s27 : KnE P (6, [q (vL 2 7) 0], vS 2 7) := pureB_ok Pok kn1_ok (fuel := 20000) (v := vS 2 7) rfl (by kernel_rfl)
theorem t28 : KnE P (30, [.str (tx 2 8)], vT 2 8) := fun s => (show LV.tup [encToks (tokensF (tx 2 8)).1, .int .i64 (tokensF (tx 2 8)).2.1, .int .i64 (tokensF (tx 2 8)).2.2] = vT 2 8 by kernel_rfl) ▸ tokens (tx 2 8) s
theorem p28 : KnE P (13, [.str (tx 2 8)], vP 2 8) := pureB_ok Pok (knTab_ok kn1_ok (KnOk.cons t28 .nil : KnOk P [(30, [.str (tx 2 8)], vT 2 8)])) (fuel := 20000) (v := vP 2 8) rfl (by kernel_rfl)
theorem x28 : KnE P (12, [q (vB 2 8) 0, q (vH 2 8) 0], .bool true) := pureB_ok Pok kn1_ok (fuel := 20000) (v := .bool true) rfl (by kernel_rfl)
theorem l28 : KnE P (14, [q (vP 2 8) 0], vL 2 8) := pureB_ok Pok (knTab_ok kn1_ok (KnOk.cons (kC 2 8) (.cons (kM 2 8) .nil) : KnOk P [(38, [q (vP 2 8) 0], vC 2 8), (39, [q (vP 2 8) 0], vM 2 8)])) (fuel := 20000) (v := vL 2 8) rfl (by kernel_rfl)
theorem s28 : KnE P (6, [q (vL 2 8) 0], vS 2 8) := pureB_ok Pok kn1_ok (fuel := 20000) (v := vS 2 8) rfl (by kernel_rfl)
theorem p2 : ∀ m, m < 9 → KnE P (13, [.str (tx 2 m)], vP 2 m) := fun m h => match m, h with
  | 0, _ => p20
  | 1, _ => p21
  | 2, _ => p22
  | 3, _ => p23
  | 4, _ => p24
  | 5, _ => p25
  | 6, _ => p26
  | 7, _ => p27
  | 8, _ => p28
  | k + 9, h => absurd h (by omega)
theorem x2 : ∀ m, m < 9 → KnE P (12, [q (vB 2 m) 0, q (vH 2 m) 0], .bool true) := fun m h => match m, h with
  | 0, _ => x20
  | 1, _ => x21
  | 2, _ => x22
  | 3, _ => x23
  | 4, _ => x24
  | 5, _ => x25
  | 6, _ => x26
  | 7, _ => x27
  | 8, _ => x28
  | k + 9, h => absurd h (by omega)
theorem l2 : ∀ m, m < 9 → KnE P (14, [q (vP 2 m) 0], vL 2 m) := fun m h => match m, h with
  | 0, _ => l20
  | 1, _ => l21
  | 2, _ => l22
  | 3, _ => l23
  | 4, _ => l24
  | 5, _ => l25
  | 6, _ => l26
  | 7, _ => l27
  | 8, _ => l28
  | k + 9, h => absurd h (by omega)
theorem s2 : ∀ m, m < 9 → KnE P (6, [q (vL 2 m) 0], vS 2 m) := fun m h => match m, h with
  | 0, _ => s20
  | 1, _ => s21
  | 2, _ => s22
  | 3, _ => s23
  | 4, _ => s24
  | 5, _ => s25
  | 6, _ => s26
  | 7, _ => s27
  | 8, _ => s28
  | k + 9, h => absurd h (by omega)
end Ts.apart
