/- StepApart's texts: printed by wip/tools/apart.py. -/
import Derived.Test.YthjcagfiknkmkaaApA
set_option maxRecDepth 1000000
namespace Ts.apart
open Go Den
theorem t50 : KnE P (30, [.str (tx 5 0)], vT 5 0) := fun s => (show LV.tup [encToks (tokensF (tx 5 0)).1, .int .i64 (tokensF (tx 5 0)).2.1, .int .i64 (tokensF (tx 5 0)).2.2] = vT 5 0 by kernel_rfl) ▸ tokens (tx 5 0) s
theorem p50 : KnE P (13, [.str (tx 5 0)], vP 5 0) := pureB_ok Pok (knTab_ok kn1_ok (KnOk.cons t50 .nil : KnOk P [(30, [.str (tx 5 0)], vT 5 0)])) (fuel := 20000) (v := vP 5 0) rfl (by kernel_rfl)
theorem x50 : KnE P (12, [q (vB 5 0) 0, q (vH 5 0) 0], .bool true) := pureB_ok Pok kn1_ok (fuel := 20000) (v := .bool true) rfl (by kernel_rfl)
theorem l50 : KnE P (14, [q (vP 5 0) 0], vL 5 0) := pureB_ok Pok (knTab_ok kn1_ok (KnOk.cons (kC 5 0) (.cons (kM 5 0) .nil) : KnOk P [(38, [q (vP 5 0) 0], vC 5 0), (39, [q (vP 5 0) 0], vM 5 0)])) (fuel := 20000) (v := vL 5 0) rfl (by kernel_rfl)
theorem s50 : KnE P (6, [q (vL 5 0) 0], vS 5 0) := pureB_ok Pok kn1_ok (fuel := 20000) (v := vS 5 0) rfl (by kernel_rfl)
theorem t51 : KnE P (30, [.str (tx 5 1)], vT 5 1) := fun s => (show LV.tup [encToks (tokensF (tx 5 1)).1, .int .i64 (tokensF (tx 5 1)).2.1, .int .i64 (tokensF (tx 5 1)).2.2] = vT 5 1 by kernel_rfl) ▸ tokens (tx 5 1) s
theorem p51 : KnE P (13, [.str (tx 5 1)], vP 5 1) := pureB_ok Pok (knTab_ok kn1_ok (KnOk.cons t51 .nil : KnOk P [(30, [.str (tx 5 1)], vT 5 1)])) (fuel := 20000) (v := vP 5 1) rfl (by kernel_rfl)
theorem x51 : KnE P (12, [q (vB 5 1) 0, q (vH 5 1) 0], .bool true) := pureB_ok Pok kn1_ok (fuel := 20000) (v := .bool true) rfl (by kernel_rfl)
theorem l51 : KnE P (14, [q (vP 5 1) 0], vL 5 1) := pureB_ok Pok (knTab_ok kn1_ok (KnOk.cons (kC 5 1) (.cons (kM 5 1) .nil) : KnOk P [(38, [q (vP 5 1) 0], vC 5 1), (39, [q (vP 5 1) 0], vM 5 1)])) (fuel := 20000) (v := vL 5 1) rfl (by kernel_rfl)
theorem s51 : KnE P (6, [q (vL 5 1) 0], vS 5 1) := pureB_ok Pok kn1_ok (fuel := 20000) (v := vS 5 1) rfl (by kernel_rfl)
theorem t52 : KnE P (30, [.str (tx 5 2)], vT 5 2) := fun s => (show LV.tup [encToks (tokensF (tx 5 2)).1, .int .i64 (tokensF (tx 5 2)).2.1, .int .i64 (tokensF (tx 5 2)).2.2] = vT 5 2 by kernel_rfl) ▸ tokens (tx 5 2) s
theorem p52 : KnE P (13, [.str (tx 5 2)], vP 5 2) := pureB_ok Pok (knTab_ok kn1_ok (KnOk.cons t52 .nil : KnOk P [(30, [.str (tx 5 2)], vT 5 2)])) (fuel := 20000) (v := vP 5 2) rfl (by kernel_rfl)
theorem x52 : KnE P (12, [q (vB 5 2) 0, q (vH 5 2) 0], .bool true) := pureB_ok Pok kn1_ok (fuel := 20000) (v := .bool true) rfl (by kernel_rfl)
theorem l52 : KnE P (14, [q (vP 5 2) 0], vL 5 2) := pureB_ok Pok (knTab_ok kn1_ok (KnOk.cons (kC 5 2) (.cons (kM 5 2) .nil) : KnOk P [(38, [q (vP 5 2) 0], vC 5 2), (39, [q (vP 5 2) 0], vM 5 2)])) (fuel := 20000) (v := vL 5 2) rfl (by kernel_rfl)
theorem s52 : KnE P (6, [q (vL 5 2) 0], vS 5 2) := pureB_ok Pok kn1_ok (fuel := 20000) (v := vS 5 2) rfl (by kernel_rfl)
theorem t53 : KnE P (30, [.str (tx 5 3)], vT 5 3) := fun s => (show LV.tup [encToks (tokensF (tx 5 3)).1, .int .i64 (tokensF (tx 5 3)).2.1, .int .i64 (tokensF (tx 5 3)).2.2] = vT 5 3 by kernel_rfl) ▸ tokens (tx 5 3) s
theorem p53 : KnE P (13, [.str (tx 5 3)], vP 5 3) := pureB_ok Pok (knTab_ok kn1_ok (KnOk.cons t53 .nil : KnOk P [(30, [.str (tx 5 3)], vT 5 3)])) (fuel := 20000) (v := vP 5 3) rfl (by kernel_rfl)
theorem x53 : KnE P (12, [q (vB 5 3) 0, q (vH 5 3) 0], .bool true) := pureB_ok Pok kn1_ok (fuel := 20000) (v := .bool true) rfl (by kernel_rfl)
theorem l53 : KnE P (14, [q (vP 5 3) 0], vL 5 3) := pureB_ok Pok (knTab_ok kn1_ok (KnOk.cons (kC 5 3) (.cons (kM 5 3) .nil) : KnOk P [(38, [q (vP 5 3) 0], vC 5 3), (39, [q (vP 5 3) 0], vM 5 3)])) (fuel := 20000) (v := vL 5 3) rfl (by kernel_rfl)
theorem s53 : KnE P (6, [q (vL 5 3) 0], vS 5 3) := pureB_ok Pok kn1_ok (fuel := 20000) (v := vS 5 3) rfl (by kernel_rfl)
theorem t54 : KnE P (30, [.str (tx 5 4)], vT 5 4) := fun s => (show LV.tup [encToks (tokensF (tx 5 4)).1, .int .i64 (tokensF (tx 5 4)).2.1, .int .i64 (tokensF (tx 5 4)).2.2] = vT 5 4 by kernel_rfl) ▸ tokens (tx 5 4) s
theorem p54 : KnE P (13, [.str (tx 5 4)], vP 5 4) := pureB_ok Pok (knTab_ok kn1_ok (KnOk.cons t54 .nil : KnOk P [(30, [.str (tx 5 4)], vT 5 4)])) (fuel := 20000) (v := vP 5 4) rfl (by kernel_rfl)
theorem x54 : KnE P (12, [q (vB 5 4) 0, q (vH 5 4) 0], .bool true) := pureB_ok Pok kn1_ok (fuel := 20000) (v := .bool true) rfl (by kernel_rfl)
theorem l54 : KnE P (14, [q (vP 5 4) 0], vL 5 4) := pureB_ok Pok (knTab_ok kn1_ok (KnOk.cons (kC 5 4) (.cons (kM 5 4) .nil) : KnOk P [(38, [q (vP 5 4) 0], vC 5 4), (39, [q (vP 5 4) 0], vM 5 4)])) (fuel := 20000) (v := vL 5 4) rfl (by kernel_rfl)
theorem s54 : KnE P (6, [q (vL 5 4) 0], vS 5 4) := pureB_ok Pok kn1_ok (fuel := 20000) (v := vS 5 4) rfl (by kernel_rfl)
theorem t55 : KnE P (30, [.str (tx 5 5)], vT 5 5) := fun s => (show LV.tup [encToks (tokensF (tx 5 5)).1, .int .i64 (tokensF (tx 5 5)).2.1, .int .i64 (tokensF (tx 5 5)).2.2] = vT 5 5 by kernel_rfl) ▸ tokens (tx 5 5) s
theorem p55 : KnE P (13, [.str (tx 5 5)], vP 5 5) := pureB_ok Pok (knTab_ok kn1_ok (KnOk.cons t55 .nil : KnOk P [(30, [.str (tx 5 5)], vT 5 5)])) (fuel := 20000) (v := vP 5 5) rfl (by kernel_rfl)
theorem x55 : KnE P (12, [q (vB 5 5) 0, q (vH 5 5) 0], .bool true) := pureB_ok Pok kn1_ok (fuel := 20000) (v := .bool true) rfl (by kernel_rfl)
theorem l55 : KnE P (14, [q (vP 5 5) 0], vL 5 5) := pureB_ok Pok (knTab_ok kn1_ok (KnOk.cons (kC 5 5) (.cons (kM 5 5) .nil) : KnOk P [(38, [q (vP 5 5) 0], vC 5 5), (39, [q (vP 5 5) 0], vM 5 5)])) (fuel := 20000) (v := vL 5 5) rfl (by kernel_rfl)
theorem s55 : KnE P (6, [q (vL 5 5) 0], vS 5 5) := pureB_ok Pok kn1_ok (fuel := 20000) (v := vS 5 5) rfl (by kernel_rfl)
theorem t56 : KnE P (30, [.str (tx 5 6)], vT 5 6) := fun s => (show LV.tup [encToks (tokensF (tx 5 6)).1, .int .i64 (tokensF (tx 5 6)).2.1, .int .i64 (tokensF (tx 5 6)).2.2] = vT 5 6 by kernel_rfl) ▸ tokens (tx 5 6) s
theorem p56 : KnE P (13, [.str (tx 5 6)], vP 5 6) := pureB_ok Pok (knTab_ok kn1_ok (KnOk.cons t56 .nil : KnOk P [(30, [.str (tx 5 6)], vT 5 6)])) (fuel := 20000) (v := vP 5 6) rfl (by kernel_rfl)
theorem x56 : KnE P (12, [q (vB 5 6) 0, q (vH 5 6) 0], .bool true) := pureB_ok Pok kn1_ok (fuel := 20000) (v := .bool true) rfl (by kernel_rfl)
theorem l56 : KnE P (14, [q (vP 5 6) 0], vL 5 6) := pureB_ok Pok (knTab_ok kn1_ok (KnOk.cons (kC 5 6) (.cons (kM 5 6) .nil) : KnOk P [(38, [q (vP 5 6) 0], vC 5 6), (39, [q (vP 5 6) 0], vM 5 6)])) (fuel := 20000) (v := vL 5 6) rfl (by kernel_rfl)
theorem s56 : KnE P (6, [q (vL 5 6) 0], vS 5 6) := pureB_ok Pok kn1_ok (fuel := 20000) (v := vS 5 6) rfl (by kernel_rfl)
theorem t57 : KnE P (30, [.str (tx 5 7)], vT 5 7) := fun s => (show LV.tup [encToks (tokensF (tx 5 7)).1, .int .i64 (tokensF (tx 5 7)).2.1, .int .i64 (tokensF (tx 5 7)).2.2] = vT 5 7 by kernel_rfl) ▸ tokens (tx 5 7) s
theorem p57 : KnE P (13, [.str (tx 5 7)], vP 5 7) := pureB_ok Pok (knTab_ok kn1_ok (KnOk.cons t57 .nil : KnOk P [(30, [.str (tx 5 7)], vT 5 7)])) (fuel := 20000) (v := vP 5 7) rfl (by kernel_rfl)
theorem x57 : KnE P (12, [q (vB 5 7) 0, q (vH 5 7) 0], .bool true) := pureB_ok Pok kn1_ok (fuel := 20000) (v := .bool true) rfl (by kernel_rfl)
theorem l57 : KnE P (14, [q (vP 5 7) 0], vL 5 7) := pureB_ok Pok (knTab_ok kn1_ok (KnOk.cons (kC 5 7) (.cons (kM 5 7) .nil) : KnOk P [(38, [q (vP 5 7) 0], vC 5 7), (39, [q (vP 5 7) 0], vM 5 7)])) (fuel := 20000) (v := vL 5 7) rfl (by kernel_rfl)
theorem s57 : KnE P (6, [q (vL 5 7) 0], vS 5 7) := pureB_ok Pok kn1_ok (fuel := 20000) (v := vS 5 7) rfl (by kernel_rfl)
theorem t58 : KnE P (30, [.str (tx 5 8)], vT 5 8) := fun s => (show LV.tup [encToks (tokensF (tx 5 8)).1, .int .i64 (tokensF (tx 5 8)).2.1, .int .i64 (tokensF (tx 5 8)).2.2] = vT 5 8 by kernel_rfl) ▸ tokens (tx 5 8) s
theorem p58 : KnE P (13, [.str (tx 5 8)], vP 5 8) := pureB_ok Pok (knTab_ok kn1_ok (KnOk.cons t58 .nil : KnOk P [(30, [.str (tx 5 8)], vT 5 8)])) (fuel := 20000) (v := vP 5 8) rfl (by kernel_rfl)
theorem x58 : KnE P (12, [q (vB 5 8) 0, q (vH 5 8) 0], .bool true) := pureB_ok Pok kn1_ok (fuel := 20000) (v := .bool true) rfl (by kernel_rfl)
theorem l58 : KnE P (14, [q (vP 5 8) 0], vL 5 8) := pureB_ok Pok (knTab_ok kn1_ok (KnOk.cons (kC 5 8) (.cons (kM 5 8) .nil) : KnOk P [(38, [q (vP 5 8) 0], vC 5 8), (39, [q (vP 5 8) 0], vM 5 8)])) (fuel := 20000) (v := vL 5 8) rfl (by kernel_rfl)
theorem s58 : KnE P (6, [q (vL 5 8) 0], vS 5 8) := pureB_ok Pok kn1_ok (fuel := 20000) (v := vS 5 8) rfl (by kernel_rfl)
theorem p5 : ∀ m, m < 9 → KnE P (13, [.str (tx 5 m)], vP 5 m) := fun m h => match m, h with
  | 0, _ => p50
  | 1, _ => p51
  | 2, _ => p52
  | 3, _ => p53
  | 4, _ => p54
  | 5, _ => p55
  | 6, _ => p56
  | 7, _ => p57
  | 8, _ => p58
  | k + 9, h => absurd h (by omega)
theorem x5 : ∀ m, m < 9 → KnE P (12, [q (vB 5 m) 0, q (vH 5 m) 0], .bool true) := fun m h => match m, h with
  | 0, _ => x50
  | 1, _ => x51
  | 2, _ => x52
  | 3, _ => x53
  | 4, _ => x54
  | 5, _ => x55
  | 6, _ => x56
  | 7, _ => x57
  | 8, _ => x58
  | k + 9, h => absurd h (by omega)
theorem l5 : ∀ m, m < 9 → KnE P (14, [q (vP 5 m) 0], vL 5 m) := fun m h => match m, h with
  | 0, _ => l50
  | 1, _ => l51
  | 2, _ => l52
  | 3, _ => l53
  | 4, _ => l54
  | 5, _ => l55
  | 6, _ => l56
  | 7, _ => l57
  | 8, _ => l58
  | k + 9, h => absurd h (by omega)
theorem s5 : ∀ m, m < 9 → KnE P (6, [q (vL 5 m) 0], vS 5 m) := fun m h => match m, h with
  | 0, _ => s50
  | 1, _ => s51
  | 2, _ => s52
  | 3, _ => s53
  | 4, _ => s54
  | 5, _ => s55
  | 6, _ => s56
  | 7, _ => s57
  | 8, _ => s58
  | k + 9, h => absurd h (by omega)
end Ts.apart
