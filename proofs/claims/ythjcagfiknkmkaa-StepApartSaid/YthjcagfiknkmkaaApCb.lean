/- StepApart's texts: printed by wip/tools/apart.py. -/
import Derived.Test.YthjcagfiknkmkaaApA
set_option maxRecDepth 1000000
namespace Ts.apart
open Go Den
theorem t10 : KnE P (30, [.str (tx 1 0)], vT 1 0) := fun s => (show LV.tup [encToks (tokensF (tx 1 0)).1, .int .i64 (tokensF (tx 1 0)).2.1, .int .i64 (tokensF (tx 1 0)).2.2] = vT 1 0 by kernel_rfl) ▸ tokens (tx 1 0) s
theorem p10 : KnE P (13, [.str (tx 1 0)], vP 1 0) := pureB_ok Pok (knTab_ok kn1_ok (KnOk.cons t10 .nil : KnOk P [(30, [.str (tx 1 0)], vT 1 0)])) (fuel := 20000) (v := vP 1 0) rfl (by kernel_rfl)
theorem x10 : KnE P (12, [q (vB 1 0) 0, q (vH 1 0) 0], .bool true) := pureB_ok Pok kn1_ok (fuel := 20000) (v := .bool true) rfl (by kernel_rfl)
theorem l10 : KnE P (14, [q (vP 1 0) 0], vL 1 0) := pureB_ok Pok (knTab_ok kn1_ok (KnOk.cons (kC 1 0) (.cons (kM 1 0) .nil) : KnOk P [(38, [q (vP 1 0) 0], vC 1 0), (39, [q (vP 1 0) 0], vM 1 0)])) (fuel := 20000) (v := vL 1 0) rfl (by kernel_rfl)
theorem s10 : KnE P (6, [q (vL 1 0) 0], vS 1 0) := pureB_ok Pok kn1_ok (fuel := 20000) (v := vS 1 0) rfl (by kernel_rfl)
theorem t11 : KnE P (30, [.str (tx 1 1)], vT 1 1) := fun s => (show LV.tup [encToks (tokensF (tx 1 1)).1, .int .i64 (tokensF (tx 1 1)).2.1, .int .i64 (tokensF (tx 1 1)).2.2] = vT 1 1 by kernel_rfl) ▸ tokens (tx 1 1) s
theorem p11 : KnE P (13, [.str (tx 1 1)], vP 1 1) := pureB_ok Pok (knTab_ok kn1_ok (KnOk.cons t11 .nil : KnOk P [(30, [.str (tx 1 1)], vT 1 1)])) (fuel := 20000) (v := vP 1 1) rfl (by kernel_rfl)
theorem x11 : KnE P (12, [q (vB 1 1) 0, q (vH 1 1) 0], .bool true) := pureB_ok Pok kn1_ok (fuel := 20000) (v := .bool true) rfl (by kernel_rfl)
theorem l11 : KnE P (14, [q (vP 1 1) 0], vL 1 1) := pureB_ok Pok (knTab_ok kn1_ok (KnOk.cons (kC 1 1) (.cons (kM 1 1) .nil) : KnOk P [(38, [q (vP 1 1) 0], vC 1 1), (39, [q (vP 1 1) 0], vM 1 1)])) (fuel := 20000) (v := vL 1 1) rfl (by kernel_rfl)
theorem s11 : KnE P (6, [q (vL 1 1) 0], vS 1 1) := pureB_ok Pok kn1_ok (fuel := 20000) (v := vS 1 1) rfl (by kernel_rfl)
theorem t12 : KnE P (30, [.str (tx 1 2)], vT 1 2) := fun s => (show LV.tup [encToks (tokensF (tx 1 2)).1, .int .i64 (tokensF (tx 1 2)).2.1, .int .i64 (tokensF (tx 1 2)).2.2] = vT 1 2 by kernel_rfl) ▸ tokens (tx 1 2) s
theorem p12 : KnE P (13, [.str (tx 1 2)], vP 1 2) := pureB_ok Pok (knTab_ok kn1_ok (KnOk.cons t12 .nil : KnOk P [(30, [.str (tx 1 2)], vT 1 2)])) (fuel := 20000) (v := vP 1 2) rfl (by kernel_rfl)
theorem x12 : KnE P (12, [q (vB 1 2) 0, q (vH 1 2) 0], .bool true) := pureB_ok Pok kn1_ok (fuel := 20000) (v := .bool true) rfl (by kernel_rfl)
theorem l12 : KnE P (14, [q (vP 1 2) 0], vL 1 2) := pureB_ok Pok (knTab_ok kn1_ok (KnOk.cons (kC 1 2) (.cons (kM 1 2) .nil) : KnOk P [(38, [q (vP 1 2) 0], vC 1 2), (39, [q (vP 1 2) 0], vM 1 2)])) (fuel := 20000) (v := vL 1 2) rfl (by kernel_rfl)
theorem s12 : KnE P (6, [q (vL 1 2) 0], vS 1 2) := pureB_ok Pok kn1_ok (fuel := 20000) (v := vS 1 2) rfl (by kernel_rfl)
theorem t13 : KnE P (30, [.str (tx 1 3)], vT 1 3) := fun s => (show LV.tup [encToks (tokensF (tx 1 3)).1, .int .i64 (tokensF (tx 1 3)).2.1, .int .i64 (tokensF (tx 1 3)).2.2] = vT 1 3 by kernel_rfl) ▸ tokens (tx 1 3) s
theorem p13 : KnE P (13, [.str (tx 1 3)], vP 1 3) := pureB_ok Pok (knTab_ok kn1_ok (KnOk.cons t13 .nil : KnOk P [(30, [.str (tx 1 3)], vT 1 3)])) (fuel := 20000) (v := vP 1 3) rfl (by kernel_rfl)
theorem x13 : KnE P (12, [q (vB 1 3) 0, q (vH 1 3) 0], .bool true) := pureB_ok Pok kn1_ok (fuel := 20000) (v := .bool true) rfl (by kernel_rfl)
theorem l13 : KnE P (14, [q (vP 1 3) 0], vL 1 3) := pureB_ok Pok (knTab_ok kn1_ok (KnOk.cons (kC 1 3) (.cons (kM 1 3) .nil) : KnOk P [(38, [q (vP 1 3) 0], vC 1 3), (39, [q (vP 1 3) 0], vM 1 3)])) (fuel := 20000) (v := vL 1 3) rfl (by kernel_rfl)
theorem s13 : KnE P (6, [q (vL 1 3) 0], vS 1 3) := pureB_ok Pok kn1_ok (fuel := 20000) (v := vS 1 3) rfl (by kernel_rfl)
theorem t14 : KnE P (30, [.str (tx 1 4)], vT 1 4) := fun s => (show LV.tup [encToks (tokensF (tx 1 4)).1, .int .i64 (tokensF (tx 1 4)).2.1, .int .i64 (tokensF (tx 1 4)).2.2] = vT 1 4 by kernel_rfl) ▸ tokens (tx 1 4) s
theorem p14 : KnE P (13, [.str (tx 1 4)], vP 1 4) := pureB_ok Pok (knTab_ok kn1_ok (KnOk.cons t14 .nil : KnOk P [(30, [.str (tx 1 4)], vT 1 4)])) (fuel := 20000) (v := vP 1 4) rfl (by kernel_rfl)
theorem x14 : KnE P (12, [q (vB 1 4) 0, q (vH 1 4) 0], .bool true) := pureB_ok Pok kn1_ok (fuel := 20000) (v := .bool true) rfl (by kernel_rfl)
theorem l14 : KnE P (14, [q (vP 1 4) 0], vL 1 4) := pureB_ok Pok (knTab_ok kn1_ok (KnOk.cons (kC 1 4) (.cons (kM 1 4) .nil) : KnOk P [(38, [q (vP 1 4) 0], vC 1 4), (39, [q (vP 1 4) 0], vM 1 4)])) (fuel := 20000) (v := vL 1 4) rfl (by kernel_rfl)
theorem s14 : KnE P (6, [q (vL 1 4) 0], vS 1 4) := pureB_ok Pok kn1_ok (fuel := 20000) (v := vS 1 4) rfl (by kernel_rfl)
theorem t15 : KnE P (30, [.str (tx 1 5)], vT 1 5) := fun s => (show LV.tup [encToks (tokensF (tx 1 5)).1, .int .i64 (tokensF (tx 1 5)).2.1, .int .i64 (tokensF (tx 1 5)).2.2] = vT 1 5 by kernel_rfl) ▸ tokens (tx 1 5) s
theorem p15 : KnE P (13, [.str (tx 1 5)], vP 1 5) := pureB_ok Pok (knTab_ok kn1_ok (KnOk.cons t15 .nil : KnOk P [(30, [.str (tx 1 5)], vT 1 5)])) (fuel := 20000) (v := vP 1 5) rfl (by kernel_rfl)
theorem x15 : KnE P (12, [q (vB 1 5) 0, q (vH 1 5) 0], .bool true) := pureB_ok Pok kn1_ok (fuel := 20000) (v := .bool true) rfl (by kernel_rfl)
theorem l15 : KnE P (14, [q (vP 1 5) 0], vL 1 5) := pureB_ok Pok (knTab_ok kn1_ok (KnOk.cons (kC 1 5) (.cons (kM 1 5) .nil) : KnOk P [(38, [q (vP 1 5) 0], vC 1 5), (39, [q (vP 1 5) 0], vM 1 5)])) (fuel := 20000) (v := vL 1 5) rfl (by kernel_rfl)
theorem s15 : KnE P (6, [q (vL 1 5) 0], vS 1 5) := pureB_ok Pok kn1_ok (fuel := 20000) (v := vS 1 5) rfl (by kernel_rfl)
theorem t16 : KnE P (30, [.str (tx 1 6)], vT 1 6) := fun s => (show LV.tup [encToks (tokensF (tx 1 6)).1, .int .i64 (tokensF (tx 1 6)).2.1, .int .i64 (tokensF (tx 1 6)).2.2] = vT 1 6 by kernel_rfl) ▸ tokens (tx 1 6) s
theorem p16 : KnE P (13, [.str (tx 1 6)], vP 1 6) := pureB_ok Pok (knTab_ok kn1_ok (KnOk.cons t16 .nil : KnOk P [(30, [.str (tx 1 6)], vT 1 6)])) (fuel := 20000) (v := vP 1 6) rfl (by kernel_rfl)
theorem x16 : KnE P (12, [q (vB 1 6) 0, q (vH 1 6) 0], .bool true) := pureB_ok Pok kn1_ok (fuel := 20000) (v := .bool true) rfl (by kernel_rfl)
theorem l16 : KnE P (14, [q (vP 1 6) 0], vL 1 6) := pureB_ok Pok (knTab_ok kn1_ok (KnOk.cons (kC 1 6) (.cons (kM 1 6) .nil) : KnOk P [(38, [q (vP 1 6) 0], vC 1 6), (39, [q (vP 1 6) 0], vM 1 6)])) (fuel := 20000) (v := vL 1 6) rfl (by kernel_rfl)
theorem s16 : KnE P (6, [q (vL 1 6) 0], vS 1 6) := pureB_ok Pok kn1_ok (fuel := 20000) (v := vS 1 6) rfl (by kernel_rfl)
theorem t17 : KnE P (30, [.str (tx 1 7)], vT 1 7) := fun s => (show LV.tup [encToks (tokensF (tx 1 7)).1, .int .i64 (tokensF (tx 1 7)).2.1, .int .i64 (tokensF (tx 1 7)).2.2] = vT 1 7 by kernel_rfl) ▸ tokens (tx 1 7) s
theorem p17 : KnE P (13, [.str (tx 1 7)], vP 1 7) := pureB_ok Pok (knTab_ok kn1_ok (KnOk.cons t17 .nil : KnOk P [(30, [.str (tx 1 7)], vT 1 7)])) (fuel := 20000) (v := vP 1 7) rfl (by kernel_rfl)
theorem x17 : KnE P (12, [q (vB 1 7) 0, q (vH 1 7) 0], .bool true) := pureB_ok Pok kn1_ok (fuel := 20000) (v := .bool true) rfl (by kernel_rfl)
theorem l17 : KnE P (14, [q (vP 1 7) 0], vL 1 7) := pureB_ok Pok (knTab_ok kn1_ok (KnOk.cons (kC 1 7) (.cons (kM 1 7) .nil) : KnOk P [(38, [q (vP 1 7) 0], vC 1 7), (39, [q (vP 1 7) 0], vM 1 7)])) (fuel := 20000) (v := vL 1 7) rfl (by kernel_rfl)
theorem s17 : KnE P (6, [q (vL 1 7) 0], vS 1 7) := pureB_ok Pok kn1_ok (fuel := 20000) (v := vS 1 7) rfl (by kernel_rfl)
theorem t18 : KnE P (30, [.str (tx 1 8)], vT 1 8) := fun s => (show LV.tup [encToks (tokensF (tx 1 8)).1, .int .i64 (tokensF (tx 1 8)).2.1, .int .i64 (tokensF (tx 1 8)).2.2] = vT 1 8 by kernel_rfl) ▸ tokens (tx 1 8) s
theorem p18 : KnE P (13, [.str (tx 1 8)], vP 1 8) := pureB_ok Pok (knTab_ok kn1_ok (KnOk.cons t18 .nil : KnOk P [(30, [.str (tx 1 8)], vT 1 8)])) (fuel := 20000) (v := vP 1 8) rfl (by kernel_rfl)
theorem x18 : KnE P (12, [q (vB 1 8) 0, q (vH 1 8) 0], .bool true) := pureB_ok Pok kn1_ok (fuel := 20000) (v := .bool true) rfl (by kernel_rfl)
theorem l18 : KnE P (14, [q (vP 1 8) 0], vL 1 8) := pureB_ok Pok (knTab_ok kn1_ok (KnOk.cons (kC 1 8) (.cons (kM 1 8) .nil) : KnOk P [(38, [q (vP 1 8) 0], vC 1 8), (39, [q (vP 1 8) 0], vM 1 8)])) (fuel := 20000) (v := vL 1 8) rfl (by kernel_rfl)
theorem s18 : KnE P (6, [q (vL 1 8) 0], vS 1 8) := pureB_ok Pok kn1_ok (fuel := 20000) (v := vS 1 8) rfl (by kernel_rfl)
theorem p1 : ∀ m, m < 9 → KnE P (13, [.str (tx 1 m)], vP 1 m) := fun m h => match m, h with
  | 0, _ => p10
  | 1, _ => p11
  | 2, _ => p12
  | 3, _ => p13
  | 4, _ => p14
  | 5, _ => p15
  | 6, _ => p16
  | 7, _ => p17
  | 8, _ => p18
  | k + 9, h => absurd h (by omega)
theorem x1 : ∀ m, m < 9 → KnE P (12, [q (vB 1 m) 0, q (vH 1 m) 0], .bool true) := fun m h => match m, h with
  | 0, _ => x10
  | 1, _ => x11
  | 2, _ => x12
  | 3, _ => x13
  | 4, _ => x14
  | 5, _ => x15
  | 6, _ => x16
  | 7, _ => x17
  | 8, _ => x18
  | k + 9, h => absurd h (by omega)
theorem l1 : ∀ m, m < 9 → KnE P (14, [q (vP 1 m) 0], vL 1 m) := fun m h => match m, h with
  | 0, _ => l10
  | 1, _ => l11
  | 2, _ => l12
  | 3, _ => l13
  | 4, _ => l14
  | 5, _ => l15
  | 6, _ => l16
  | 7, _ => l17
  | 8, _ => l18
  | k + 9, h => absurd h (by omega)
theorem s1 : ∀ m, m < 9 → KnE P (6, [q (vL 1 m) 0], vS 1 m) := fun m h => match m, h with
  | 0, _ => s10
  | 1, _ => s11
  | 2, _ => s12
  | 3, _ => s13
  | 4, _ => s14
  | 5, _ => s15
  | 6, _ => s16
  | 7, _ => s17
  | 8, _ => s18
  | k + 9, h => absurd h (by omega)
end Ts.apart
