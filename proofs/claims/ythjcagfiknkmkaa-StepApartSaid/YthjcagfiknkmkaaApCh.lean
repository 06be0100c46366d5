/- StepApart's texts: printed by wip/tools/apart.py. -/
import Derived.Test.YthjcagfiknkmkaaApA
set_option maxRecDepth 1000000
namespace Ts.apart
open Go Den
theorem t70 : KnE P (30, [.str (tx 7 0)], vT 7 0) := fun s => (show LV.tup [encToks (tokensF (tx 7 0)).1, .int .i64 (tokensF (tx 7 0)).2.1, .int .i64 (tokensF (tx 7 0)).2.2] = vT 7 0 by kernel_rfl) ▸ tokens (tx 7 0) s
theorem p70 : KnE P (13, [.str (tx 7 0)], vP 7 0) := pureB_ok Pok (knTab_ok kn1_ok (KnOk.cons t70 .nil : KnOk P [(30, [.str (tx 7 0)], vT 7 0)])) (fuel := 20000) (v := vP 7 0) rfl (by kernel_rfl)
theorem x70 : KnE P (12, [q (vB 7 0) 0, q (vH 7 0) 0], .bool true) := pureB_ok Pok kn1_ok (fuel := 20000) (v := .bool true) rfl (by kernel_rfl)
theorem l70 : KnE P (14, [q (vP 7 0) 0], vL 7 0) := pureB_ok Pok (knTab_ok kn1_ok (KnOk.cons (kC 7 0) (.cons (kM 7 0) .nil) : KnOk P [(38, [q (vP 7 0) 0], vC 7 0), (39, [q (vP 7 0) 0], vM 7 0)])) (fuel := 20000) (v := vL 7 0) rfl (by kernel_rfl)
theorem s70 : KnE P (6, [q (vL 7 0) 0], vS 7 0) := pureB_ok Pok kn1_ok (fuel := 20000) (v := vS 7 0) rfl (by kernel_rfl)
theorem t71 : KnE P (30, [.str (tx 7 1)], vT 7 1) := fun s => (show LV.tup [encToks (tokensF (tx 7 1)).1, .int .i64 (tokensF (tx 7 1)).2.1, .int .i64 (tokensF (tx 7 1)).2.2] = vT 7 1 by kernel_rfl) ▸ tokens (tx 7 1) s
theorem p71 : KnE P (13, [.str (tx 7 1)], vP 7 1) := pureB_ok Pok (knTab_ok kn1_ok (KnOk.cons t71 .nil : KnOk P [(30, [.str (tx 7 1)], vT 7 1)])) (fuel := 20000) (v := vP 7 1) rfl (by kernel_rfl)
theorem x71 : KnE P (12, [q (vB 7 1) 0, q (vH 7 1) 0], .bool true) := pureB_ok Pok kn1_ok (fuel := 20000) (v := .bool true) rfl (by kernel_rfl)
theorem l71 : KnE P (14, [q (vP 7 1) 0], vL 7 1) := pureB_ok Pok (knTab_ok kn1_ok (KnOk.cons (kC 7 1) (.cons (kM 7 1) .nil) : KnOk P [(38, [q (vP 7 1) 0], vC 7 1), (39, [q (vP 7 1) 0], vM 7 1)])) (fuel := 20000) (v := vL 7 1) rfl (by kernel_rfl)
theorem s71 : KnE P (6, [q (vL 7 1) 0], vS 7 1) := pureB_ok Pok kn1_ok (fuel := 20000) (v := vS 7 1) rfl (by kernel_rfl)
theorem t72 : KnE P (30, [.str (tx 7 2)], vT 7 2) := fun s => (show LV.tup [encToks (tokensF (tx 7 2)).1, .int .i64 (tokensF (tx 7 2)).2.1, .int .i64 (tokensF (tx 7 2)).2.2] = vT 7 2 by kernel_rfl) ▸ tokens (tx 7 2) s
theorem p72 : KnE P (13, [.str (tx 7 2)], vP 7 2) := pureB_ok Pok (knTab_ok kn1_ok (KnOk.cons t72 .nil : KnOk P [(30, [.str (tx 7 2)], vT 7 2)])) (fuel := 20000) (v := vP 7 2) rfl (by kernel_rfl)
theorem x72 : KnE P (12, [q (vB 7 2) 0, q (vH 7 2) 0], .bool true) := pureB_ok Pok kn1_ok (fuel := 20000) (v := .bool true) rfl (by kernel_rfl)
theorem l72 : KnE P (14, [q (vP 7 2) 0], vL 7 2) := pureB_ok Pok (knTab_ok kn1_ok (KnOk.cons (kC 7 2) (.cons (kM 7 2) .nil) : KnOk P [(38, [q (vP 7 2) 0], vC 7 2), (39, [q (vP 7 2) 0], vM 7 2)])) (fuel := 20000) (v := vL 7 2) rfl (by kernel_rfl)
theorem s72 : KnE P (6, [q (vL 7 2) 0], vS 7 2) := pureB_ok Pok kn1_ok (fuel := 20000) (v := vS 7 2) rfl (by kernel_rfl)
theorem t73 : KnE P (30, [.str (tx 7 3)], vT 7 3) := fun s => (show LV.tup [encToks (tokensF (tx 7 3)).1, .int .i64 (tokensF (tx 7 3)).2.1, .int .i64 (tokensF (tx 7 3)).2.2] = vT 7 3 by kernel_rfl) ▸ tokens (tx 7 3) s
theorem p73 : KnE P (13, [.str (tx 7 3)], vP 7 3) := pureB_ok Pok (knTab_ok kn1_ok (KnOk.cons t73 .nil : KnOk P [(30, [.str (tx 7 3)], vT 7 3)])) (fuel := 20000) (v := vP 7 3) rfl (by kernel_rfl)
theorem x73 : KnE P (12, [q (vB 7 3) 0, q (vH 7 3) 0], .bool true) := pureB_ok Pok kn1_ok (fuel := 20000) (v := .bool true) rfl (by kernel_rfl)
theorem l73 : KnE P (14, [q (vP 7 3) 0], vL 7 3) := pureB_ok Pok (knTab_ok kn1_ok (KnOk.cons (kC 7 3) (.cons (kM 7 3) .nil) : KnOk P [(38, [q (vP 7 3) 0], vC 7 3), (39, [q (vP 7 3) 0], vM 7 3)])) (fuel := 20000) (v := vL 7 3) rfl (by kernel_rfl)
theorem s73 : KnE P (6, [q (vL 7 3) 0], vS 7 3) := pureB_ok Pok kn1_ok (fuel := 20000) (v := vS 7 3) rfl (by kernel_rfl)
theorem t74 : KnE P (30, [.str (tx 7 4)], vT 7 4) := fun s => (show LV.tup [encToks (tokensF (tx 7 4)).1, .int .i64 (tokensF (tx 7 4)).2.1, .int .i64 (tokensF (tx 7 4)).2.2] = vT 7 4 by kernel_rfl) ▸ tokens (tx 7 4) s
theorem p74 : KnE P (13, [.str (tx 7 4)], vP 7 4) := pureB_ok Pok (knTab_ok kn1_ok (KnOk.cons t74 .nil : KnOk P [(30, [.str (tx 7 4)], vT 7 4)])) (fuel := 20000) (v := vP 7 4) rfl (by kernel_rfl)
theorem x74 : KnE P (12, [q (vB 7 4) 0, q (vH 7 4) 0], .bool true) := pureB_ok Pok kn1_ok (fuel := 20000) (v := .bool true) rfl (by kernel_rfl)
theorem l74 : KnE P (14, [q (vP 7 4) 0], vL 7 4) := pureB_ok Pok (knTab_ok kn1_ok (KnOk.cons (kC 7 4) (.cons (kM 7 4) .nil) : KnOk P [(38, [q (vP 7 4) 0], vC 7 4), (39, [q (vP 7 4) 0], vM 7 4)])) (fuel := 20000) (v := vL 7 4) rfl (by kernel_rfl)
theorem s74 : KnE P (6, [q (vL 7 4) 0], vS 7 4) := pureB_ok Pok kn1_ok (fuel := 20000) (v := vS 7 4) rfl (by kernel_rfl)
theorem t75 : KnE P (30, [.str (tx 7 5)], vT 7 5) := fun s => (show LV.tup [encToks (tokensF (tx 7 5)).1, .int .i64 (tokensF (tx 7 5)).2.1, .int .i64 (tokensF (tx 7 5)).2.2] = vT 7 5 by kernel_rfl) ▸ tokens (tx 7 5) s
theorem p75 : KnE P (13, [.str (tx 7 5)], vP 7 5) := pureB_ok Pok (knTab_ok kn1_ok (KnOk.cons t75 .nil : KnOk P [(30, [.str (tx 7 5)], vT 7 5)])) (fuel := 20000) (v := vP 7 5) rfl (by kernel_rfl)
theorem x75 : KnE P (12, [q (vB 7 5) 0, q (vH 7 5) 0], .bool true) := pureB_ok Pok kn1_ok (fuel := 20000) (v := .bool true) rfl (by kernel_rfl)
theorem l75 : KnE P (14, [q (vP 7 5) 0], vL 7 5) := pureB_ok Pok (knTab_ok kn1_ok (KnOk.cons (kC 7 5) (.cons (kM 7 5) .nil) : KnOk P [(38, [q (vP 7 5) 0], vC 7 5), (39, [q (vP 7 5) 0], vM 7 5)])) (fuel := 20000) (v := vL 7 5) rfl (by kernel_rfl)
theorem s75 : KnE P (6, [q (vL 7 5) 0], vS 7 5) := pureB_ok Pok kn1_ok (fuel := 20000) (v := vS 7 5) rfl (by kernel_rfl)
theorem t76 : KnE P (30, [.str (tx 7 6)], vT 7 6) := fun s => (show LV.tup [encToks (tokensF (tx 7 6)).1, .int .i64 (tokensF (tx 7 6)).2.1, .int .i64 (tokensF (tx 7 6)).2.2] = vT 7 6 by kernel_rfl) ▸ tokens (tx 7 6) s
theorem p76 : KnE P (13, [.str (tx 7 6)], vP 7 6) := pureB_ok Pok (knTab_ok kn1_ok (KnOk.cons t76 .nil : KnOk P [(30, [.str (tx 7 6)], vT 7 6)])) (fuel := 20000) (v := vP 7 6) rfl (by kernel_rfl)
theorem x76 : KnE P (12, [q (vB 7 6) 0, q (vH 7 6) 0], .bool true) := pureB_ok Pok kn1_ok (fuel := 20000) (v := .bool true) rfl (by kernel_rfl)
theorem l76 : KnE P (14, [q (vP 7 6) 0], vL 7 6) := pureB_ok Pok (knTab_ok kn1_ok (KnOk.cons (kC 7 6) (.cons (kM 7 6) .nil) : KnOk P [(38, [q (vP 7 6) 0], vC 7 6), (39, [q (vP 7 6) 0], vM 7 6)])) (fuel := 20000) (v := vL 7 6) rfl (by kernel_rfl)
theorem s76 : KnE P (6, [q (vL 7 6) 0], vS 7 6) := pureB_ok Pok kn1_ok (fuel := 20000) (v := vS 7 6) rfl (by kernel_rfl)
theorem t77 : KnE P (30, [.str (tx 7 7)], vT 7 7) := fun s => (show LV.tup [encToks (tokensF (tx 7 7)).1, .int .i64 (tokensF (tx 7 7)).2.1, .int .i64 (tokensF (tx 7 7)).2.2] = vT 7 7 by kernel_rfl) ▸ tokens (tx 7 7) s
theorem p77 : KnE P (13, [.str (tx 7 7)], vP 7 7) := pureB_ok Pok (knTab_ok kn1_ok (KnOk.cons t77 .nil : KnOk P [(30, [.str (tx 7 7)], vT 7 7)])) (fuel := 20000) (v := vP 7 7) rfl (by kernel_rfl)
theorem x77 : KnE P (12, [q (vB 7 7) 0, q (vH 7 7) 0], .bool true) := pureB_ok Pok kn1_ok (fuel := 20000) (v := .bool true) rfl (by kernel_rfl)
theorem l77 : KnE P (14, [q (vP 7 7) 0], vL 7 7) := pureB_ok Pok (knTab_ok kn1_ok (KnOk.cons (kC 7 7) (.cons (kM 7 7) .nil) : KnOk P [(38, [q (vP 7 7) 0], vC 7 7), (39, [q (vP 7 7) 0], vM 7 7)])) (fuel := 20000) (v := vL 7 7) rfl (by kernel_rfl)
theorem s77 : KnE P (6, [q (vL 7 7) 0], vS 7 7) := pureB_ok Pok kn1_ok (fuel := 20000) (v := vS 7 7) rfl (by kernel_rfl)
theorem t78 : KnE P (30, [.str (tx 7 8)], vT 7 8) := fun s => (show LV.tup [encToks (tokensF (tx 7 8)).1, .int .i64 (tokensF (tx 7 8)).2.1, .int .i64 (tokensF (tx 7 8)).2.2] = vT 7 8 by kernel_rfl) ▸ tokens (tx 7 8) s
theorem p78 : KnE P (13, [.str (tx 7 8)], vP 7 8) := pureB_ok Pok (knTab_ok kn1_ok (KnOk.cons t78 .nil : KnOk P [(30, [.str (tx 7 8)], vT 7 8)])) (fuel := 20000) (v := vP 7 8) rfl (by kernel_rfl)
theorem x78 : KnE P (12, [q (vB 7 8) 0, q (vH 7 8) 0], .bool true) := pureB_ok Pok kn1_ok (fuel := 20000) (v := .bool true) rfl (by kernel_rfl)
theorem l78 : KnE P (14, [q (vP 7 8) 0], vL 7 8) := pureB_ok Pok (knTab_ok kn1_ok (KnOk.cons (kC 7 8) (.cons (kM 7 8) .nil) : KnOk P [(38, [q (vP 7 8) 0], vC 7 8), (39, [q (vP 7 8) 0], vM 7 8)])) (fuel := 20000) (v := vL 7 8) rfl (by kernel_rfl)
theorem s78 : KnE P (6, [q (vL 7 8) 0], vS 7 8) := pureB_ok Pok kn1_ok (fuel := 20000) (v := vS 7 8) rfl (by kernel_rfl)
theorem p7 : ∀ m, m < 9 → KnE P (13, [.str (tx 7 m)], vP 7 m) := fun m h => match m, h with
  | 0, _ => p70
  | 1, _ => p71
  | 2, _ => p72
  | 3, _ => p73
  | 4, _ => p74
  | 5, _ => p75
  | 6, _ => p76
  | 7, _ => p77
  | 8, _ => p78
  | k + 9, h => absurd h (by omega)
theorem x7 : ∀ m, m < 9 → KnE P (12, [q (vB 7 m) 0, q (vH 7 m) 0], .bool true) := fun m h => match m, h with
  | 0, _ => x70
  | 1, _ => x71
  | 2, _ => x72
  | 3, _ => x73
  | 4, _ => x74
  | 5, _ => x75
  | 6, _ => x76
  | 7, _ => x77
  | 8, _ => x78
  | k + 9, h => absurd h (by omega)
theorem l7 : ∀ m, m < 9 → KnE P (14, [q (vP 7 m) 0], vL 7 m) := fun m h => match m, h with
  | 0, _ => l70
  | 1, _ => l71
  | 2, _ => l72
  | 3, _ => l73
  | 4, _ => l74
  | 5, _ => l75
  | 6, _ => l76
  | 7, _ => l77
  | 8, _ => l78
  | k + 9, h => absurd h (by omega)
theorem s7 : ∀ m, m < 9 → KnE P (6, [q (vL 7 m) 0], vS 7 m) := fun m h => match m, h with
  | 0, _ => s70
  | 1, _ => s71
  | 2, _ => s72
  | 3, _ => s73
  | 4, _ => s74
  | 5, _ => s75
  | 6, _ => s76
  | 7, _ => s77
  | 8, _ => s78
  | k + 9, h => absurd h (by omega)
end Ts.apart
