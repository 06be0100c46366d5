/- StepApart's texts: printed by wip/tools/apart.py. -/
import Derived.Test.YthjcagfiknkmkaaApA
set_option maxRecDepth 1000000
namespace Ts.apart
open Go Den
theorem t30 : KnE P (30, [.str (tx 3 0)], vT 3 0) := fun s => (show LV.tup [encToks (tokensF (tx 3 0)).1, .int .i64 (tokensF (tx 3 0)).2.1, .int .i64 (tokensF (tx 3 0)).2.2] = vT 3 0 by kernel_rfl) ▸ tokens (tx 3 0) s
theorem p30 : KnE P (13, [.str (tx 3 0)], vP 3 0) := pureB_ok Pok (knTab_ok kn1_ok (KnOk.cons t30 .nil : KnOk P [(30, [.str (tx 3 0)], vT 3 0)])) (fuel := 20000) (v := vP 3 0) rfl (by kernel_rfl)
theorem x30 : KnE P (12, [q (vB 3 0) 0, q (vH 3 0) 0], .bool true) := pureB_ok Pok kn1_ok (fuel := 20000) (v := .bool true) rfl (by kernel_rfl)
theorem l30 : KnE P (14, [q (vP 3 0) 0], vL 3 0) := pureB_ok Pok (knTab_ok kn1_ok (KnOk.cons (kC 3 0) (.cons (kM 3 0) .nil) : KnOk P [(38, [q (vP 3 0) 0], vC 3 0), (39, [q (vP 3 0) 0], vM 3 0)])) (fuel := 20000) (v := vL 3 0) rfl (by kernel_rfl)
theorem s30 : KnE P (6, [q (vL 3 0) 0], vS 3 0) := pureB_ok Pok kn1_ok (fuel := 20000) (v := vS 3 0) rfl (by kernel_rfl)
theorem t31 : KnE P (30, [.str (tx 3 1)], vT 3 1) := fun s => (show LV.tup [encToks (tokensF (tx 3 1)).1, .int .i64 (tokensF (tx 3 1)).2.1, .int .i64 (tokensF (tx 3 1)).2.2] = vT 3 1 by kernel_rfl) ▸ tokens (tx 3 1) s
theorem p31 : KnE P (13, [.str (tx 3 1)], vP 3 1) := pureB_ok Pok (knTab_ok kn1_ok (KnOk.cons t31 .nil : KnOk P [(30, [.str (tx 3 1)], vT 3 1)])) (fuel := 20000) (v := vP 3 1) rfl (by kernel_rfl)
theorem x31 : KnE P (12, [q (vB 3 1) 0, q (vH 3 1) 0], .bool true) := pureB_ok Pok kn1_ok (fuel := 20000) (v := .bool true) rfl (by kernel_rfl)
theorem l31 : KnE P (14, [q (vP 3 1) 0], vL 3 1) := pureB_ok Pok (knTab_ok kn1_ok (KnOk.cons (kC 3 1) (.cons (kM 3 1) .nil) : KnOk P [(38, [q (vP 3 1) 0], vC 3 1), (39, [q (vP 3 1) 0], vM 3 1)])) (fuel := 20000) (v := vL 3 1) rfl (by kernel_rfl)
theorem s31 : KnE P (6, [q (vL 3 1) 0], vS 3 1) := pureB_ok Pok kn1_ok (fuel := 20000) (v := vS 3 1) rfl (by kernel_rfl)
theorem t32 : KnE P (30, [.str (tx 3 2)], vT 3 2) := fun s => (show LV.tup [encToks (tokensF (tx 3 2)).1, .int .i64 (tokensF (tx 3 2)).2.1, .int .i64 (tokensF (tx 3 2)).2.2] = vT 3 2 by kernel_rfl) ▸ tokens (tx 3 2) s
theorem p32 : KnE P (13, [.str (tx 3 2)], vP 3 2) := pureB_ok Pok (knTab_ok kn1_ok (KnOk.cons t32 .nil : KnOk P [(30, [.str (tx 3 2)], vT 3 2)])) (fuel := 20000) (v := vP 3 2) rfl (by kernel_rfl)
theorem x32 : KnE P (12, [q (vB 3 2) 0, q (vH 3 2) 0], .bool true) := pureB_ok Pok kn1_ok (fuel := 20000) (v := .bool true) rfl (by kernel_rfl)
theorem l32 : KnE P (14, [q (vP 3 2) 0], vL 3 2) := pureB_ok Pok (knTab_ok kn1_ok (KnOk.cons (kC 3 2) (.cons (kM 3 2) .nil) : KnOk P [(38, [q (vP 3 2) 0], vC 3 2), (39, [q (vP 3 2) 0], vM 3 2)])) (fuel := 20000) (v := vL 3 2) rfl (by kernel_rfl)
theorem s32 : KnE P (6, [q (vL 3 2) 0], vS 3 2) := pureB_ok Pok kn1_ok (fuel := 20000) (v := vS 3 2) rfl (by kernel_rfl)
theorem t33 : KnE P (30, [.str (tx 3 3)], vT 3 3) := fun s => (show LV.tup [encToks (tokensF (tx 3 3)).1, .int .i64 (tokensF (tx 3 3)).2.1, .int .i64 (tokensF (tx 3 3)).2.2] = vT 3 3 by kernel_rfl) ▸ tokens (tx 3 3) s
theorem p33 : KnE P (13, [.str (tx 3 3)], vP 3 3) := pureB_ok Pok (knTab_ok kn1_ok (KnOk.cons t33 .nil : KnOk P [(30, [.str (tx 3 3)], vT 3 3)])) (fuel := 20000) (v := vP 3 3) rfl (by kernel_rfl)
theorem x33 : KnE P (12, [q (vB 3 3) 0, q (vH 3 3) 0], .bool true) := pureB_ok Pok kn1_ok (fuel := 20000) (v := .bool true) rfl (by kernel_rfl)
theorem l33 : KnE P (14, [q (vP 3 3) 0], vL 3 3) := pureB_ok Pok (knTab_ok kn1_ok (KnOk.cons (kC 3 3) (.cons (kM 3 3) .nil) : KnOk P [(38, [q (vP 3 3) 0], vC 3 3), (39, [q (vP 3 3) 0], vM 3 3)])) (fuel := 20000) (v := vL 3 3) rfl (by kernel_rfl)
theorem s33 : KnE P (6, [q (vL 3 3) 0], vS 3 3) := pureB_ok Pok kn1_ok (fuel := 20000) (v := vS 3 3) rfl (by kernel_rfl)
theorem t34 : KnE P (30, [.str (tx 3 4)], vT 3 4) := fun s => (show LV.tup [encToks (tokensF (tx 3 4)).1, .int .i64 (tokensF (tx 3 4)).2.1, .int .i64 (tokensF (tx 3 4)).2.2] = vT 3 4 by kernel_rfl) ▸ tokens (tx 3 4) s
theorem p34 : KnE P (13, [.str (tx 3 4)], vP 3 4) := pureB_ok Pok (knTab_ok kn1_ok (KnOk.cons t34 .nil : KnOk P [(30, [.str (tx 3 4)], vT 3 4)])) (fuel := 20000) (v := vP 3 4) rfl (by kernel_rfl)
theorem x34 : KnE P (12, [q (vB 3 4) 0, q (vH 3 4) 0], .bool true) := pureB_ok Pok kn1_ok (fuel := 20000) (v := .bool true) rfl (by kernel_rfl)
theorem l34 : KnE P (14, [q (vP 3 4) 0], vL 3 4) := pureB_ok Pok (knTab_ok kn1_ok (KnOk.cons (kC 3 4) (.cons (kM 3 4) .nil) : KnOk P [(38, [q (vP 3 4) 0], vC 3 4), (39, [q (vP 3 4) 0], vM 3 4)])) (fuel := 20000) (v := vL 3 4) rfl (by kernel_rfl)
theorem s34 : KnE P (6, [q (vL 3 4) 0], vS 3 4) := pureB_ok Pok kn1_ok (fuel := 20000) (v := vS 3 4) rfl (by kernel_rfl)
theorem t35 : KnE P (30, [.str (tx 3 5)], vT 3 5) := fun s => (show LV.tup [encToks (tokensF (tx 3 5)).1, .int .i64 (tokensF (tx 3 5)).2.1, .int .i64 (tokensF (tx 3 5)).2.2] = vT 3 5 by kernel_rfl) ▸ tokens (tx 3 5) s
theorem p35 : KnE P (13, [.str (tx 3 5)], vP 3 5) := pureB_ok Pok (knTab_ok kn1_ok (KnOk.cons t35 .nil : KnOk P [(30, [.str (tx 3 5)], vT 3 5)])) (fuel := 20000) (v := vP 3 5) rfl (by kernel_rfl)
theorem x35 : KnE P (12, [q (vB 3 5) 0, q (vH 3 5) 0], .bool true) := pureB_ok Pok kn1_ok (fuel := 20000) (v := .bool true) rfl (by kernel_rfl)
theorem l35 : KnE P (14, [q (vP 3 5) 0], vL 3 5) := pureB_ok Pok (knTab_ok kn1_ok (KnOk.cons (kC 3 5) (.cons (kM 3 5) .nil) : KnOk P [(38, [q (vP 3 5) 0], vC 3 5), (39, [q (vP 3 5) 0], vM 3 5)])) (fuel := 20000) (v := vL 3 5) rfl (by kernel_rfl)
theorem s35 : KnE P (6, [q (vL 3 5) 0], vS 3 5) := pureB_ok Pok kn1_ok (fuel := 20000) (v := vS 3 5) rfl (by kernel_rfl)
theorem t36 : KnE P (30, [.str (tx 3 6)], vT 3 6) := fun s => (show LV.tup [encToks (tokensF (tx 3 6)).1, .int .i64 (tokensF (tx 3 6)).2.1, .int .i64 (tokensF (tx 3 6)).2.2] = vT 3 6 by kernel_rfl) ▸ tokens (tx 3 6) s
theorem p36 : KnE P (13, [.str (tx 3 6)], vP 3 6) := pureB_ok Pok (knTab_ok kn1_ok (KnOk.cons t36 .nil : KnOk P [(30, [.str (tx 3 6)], vT 3 6)])) (fuel := 20000) (v := vP 3 6) rfl (by kernel_rfl)
theorem x36 : KnE P (12, [q (vB 3 6) 0, q (vH 3 6) 0], .bool true) := pureB_ok Pok kn1_ok (fuel := 20000) (v := .bool true) rfl (by kernel_rfl)
theorem l36 : KnE P (14, [q (vP 3 6) 0], vL 3 6) := pureB_ok Pok (knTab_ok kn1_ok (KnOk.cons (kC 3 6) (.cons (kM 3 6) .nil) : KnOk P [(38, [q (vP 3 6) 0], vC 3 6), (39, [q (vP 3 6) 0], vM 3 6)])) (fuel := 20000) (v := vL 3 6) rfl (by kernel_rfl)
theorem s36 : KnE P (6, [q (vL 3 6) 0], vS 3 6) := pureB_ok Pok kn1_ok (fuel := 20000) (v := vS 3 6) rfl (by kernel_rfl)
theorem t37 : KnE P (30, [.str (tx 3 7)], vT 3 7) := fun s => (show LV.tup [encToks (tokensF (tx 3 7)).1, .int .i64 (tokensF (tx 3 7)).2.1, .int .i64 (tokensF (tx 3 7)).2.2] = vT 3 7 by kernel_rfl) ▸ tokens (tx 3 7) s
theorem p37 : KnE P (13, [.str (tx 3 7)], vP 3 7) := pureB_ok Pok (knTab_ok kn1_ok (KnOk.cons t37 .nil : KnOk P [(30, [.str (tx 3 7)], vT 3 7)])) (fuel := 20000) (v := vP 3 7) rfl (by kernel_rfl)
theorem x37 : KnE P (12, [q (vB 3 7) 0, q (vH 3 7) 0], .bool true) := pureB_ok Pok kn1_ok (fuel := 20000) (v := .bool true) rfl (by kernel_rfl)
theorem l37 : KnE P (14, [q (vP 3 7) 0], vL 3 7) := pureB_ok Pok (knTab_ok kn1_ok (KnOk.cons (kC 3 7) (.cons (kM 3 7) .nil) : KnOk P [(38, [q (vP 3 7) 0], vC 3 7), (39, [q (vP 3 7) 0], vM 3 7)])) (fuel := 20000) (v := vL 3 7) rfl (by kernel_rfl)
theorem s37 : KnE P (6, [q (vL 3 7) 0], vS 3 7) := pureB_ok Pok kn1_ok (fuel := 20000) (v := vS 3 7) rfl (by kernel_rfl)
theorem t38 : KnE P (30, [.str (tx 3 8)], vT 3 8) := fun s => (show LV.tup [encToks (tokensF (tx 3 8)).1, .int .i64 (tokensF (tx 3 8)).2.1, .int .i64 (tokensF (tx 3 8)).2.2] = vT 3 8 by kernel_rfl) ▸ tokens (tx 3 8) s
theorem p38 : KnE P (13, [.str (tx 3 8)], vP 3 8) := pureB_ok Pok (knTab_ok kn1_ok (KnOk.cons t38 .nil : KnOk P [(30, [.str (tx 3 8)], vT 3 8)])) (fuel := 20000) (v := vP 3 8) rfl (by kernel_rfl)
theorem x38 : KnE P (12, [q (vB 3 8) 0, q (vH 3 8) 0], .bool true) := pureB_ok Pok kn1_ok (fuel := 20000) (v := .bool true) rfl (by kernel_rfl)
theorem l38 : KnE P (14, [q (vP 3 8) 0], vL 3 8) := pureB_ok Pok (knTab_ok kn1_ok (KnOk.cons (kC 3 8) (.cons (kM 3 8) .nil) : KnOk P [(38, [q (vP 3 8) 0], vC 3 8), (39, [q (vP 3 8) 0], vM 3 8)])) (fuel := 20000) (v := vL 3 8) rfl (by kernel_rfl)
theorem s38 : KnE P (6, [q (vL 3 8) 0], vS 3 8) := pureB_ok Pok kn1_ok (fuel := 20000) (v := vS 3 8) rfl (by kernel_rfl)
theorem p3 : ∀ m, m < 9 → KnE P (13, [.str (tx 3 m)], vP 3 m) := fun m h => match m, h with
  | 0, _ => p30
  | 1, _ => p31
  | 2, _ => p32
  | 3, _ => p33
  | 4, _ => p34
  | 5, _ => p35
  | 6, _ => p36
  | 7, _ => p37
  | 8, _ => p38
  | k + 9, h => absurd h (by omega)
theorem x3 : ∀ m, m < 9 → KnE P (12, [q (vB 3 m) 0, q (vH 3 m) 0], .bool true) := fun m h => match m, h with
  | 0, _ => x30
  | 1, _ => x31
  | 2, _ => x32
  | 3, _ => x33
  | 4, _ => x34
  | 5, _ => x35
  | 6, _ => x36
  | 7, _ => x37
  | 8, _ => x38
  | k + 9, h => absurd h (by omega)
theorem l3 : ∀ m, m < 9 → KnE P (14, [q (vP 3 m) 0], vL 3 m) := fun m h => match m, h with
  | 0, _ => l30
  | 1, _ => l31
  | 2, _ => l32
  | 3, _ => l33
  | 4, _ => l34
  | 5, _ => l35
  | 6, _ => l36
  | 7, _ => l37
  | 8, _ => l38
  | k + 9, h => absurd h (by omega)
theorem s3 : ∀ m, m < 9 → KnE P (6, [q (vL 3 m) 0], vS 3 m) := fun m h => match m, h with
  | 0, _ => s30
  | 1, _ => s31
  | 2, _ => s32
  | 3, _ => s33
  | 4, _ => s34
  | 5, _ => s35
  | 6, _ => s36
  | 7, _ => s37
  | 8, _ => s38
  | k + 9, h => absurd h (by omega)
end Ts.apart
