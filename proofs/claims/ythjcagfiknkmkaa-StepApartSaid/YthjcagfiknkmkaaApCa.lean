/- StepApart's texts: printed by wip/tools/apart.py. -/
import Derived.Test.YthjcagfiknkmkaaApA
set_option maxRecDepth 1000000
namespace Ts.apart
open Go Den
theorem t00 : KnE P (30, [.str (tx 0 0)], vT 0 0) := fun s => (show LV.tup [encToks (tokensF (tx 0 0)).1, .int .i64 (tokensF (tx 0 0)).2.1, .int .i64 (tokensF (tx 0 0)).2.2] = vT 0 0 by kernel_rfl) ▸ tokens (tx 0 0) s
theorem p00 : KnE P (13, [.str (tx 0 0)], vP 0 0) := pureB_ok Pok (knTab_ok kn1_ok (KnOk.cons t00 .nil : KnOk P [(30, [.str (tx 0 0)], vT 0 0)])) (fuel := 20000) (v := vP 0 0) rfl (by kernel_rfl)
theorem x00 : KnE P (12, [q (vB 0 0) 0, q (vH 0 0) 0], .bool true) := pureB_ok Pok kn1_ok (fuel := 20000) (v := .bool true) rfl (by kernel_rfl)
theorem l00 : KnE P (14, [q (vP 0 0) 0], vL 0 0) := pureB_ok Pok (knTab_ok kn1_ok (KnOk.cons (kC 0 0) (.cons (kM 0 0) .nil) : KnOk P [(38, [q (vP 0 0) 0], vC 0 0), (39, [q (vP 0 0) 0], vM 0 0)])) (fuel := 20000) (v := vL 0 0) rfl (by kernel_rfl)
theorem s00 : KnE P (6, [q (vL 0 0) 0], vS 0 0) := pureB_ok Pok kn1_ok (fuel := 20000) (v := vS 0 0) rfl (by kernel_rfl)
theorem t01 : KnE P (30, [.str (tx 0 1)], vT 0 1) := fun s => (show LV.tup [encToks (tokensF (tx 0 1)).1, .int .i64 (tokensF (tx 0 1)).2.1, .int .i64 (tokensF (tx 0 1)).2.2] = vT 0 1 by kernel_rfl) ▸ tokens (tx 0 1) s
theorem p01 : KnE P (13, [.str (tx 0 1)], vP 0 1) := pureB_ok Pok (knTab_ok kn1_ok (KnOk.cons t01 .nil : KnOk P [(30, [.str (tx 0 1)], vT 0 1)])) (fuel := 20000) (v := vP 0 1) rfl (by kernel_rfl)
theorem x01 : KnE P (12, [q (vB 0 1) 0, q (vH 0 1) 0], .bool true) := pureB_ok Pok kn1_ok (fuel := 20000) (v := .bool true) rfl (by kernel_rfl)
theorem l01 : KnE P (14, [q (vP 0 1) 0], vL 0 1) := pureB_ok Pok (knTab_ok kn1_ok (KnOk.cons (kC 0 1) (.cons (kM 0 1) .nil) : KnOk P [(38, [q (vP 0 1) 0], vC 0 1), (39, [q (vP 0 1) 0], vM 0 1)])) (fuel := 20000) (v := vL 0 1) rfl (by kernel_rfl)
theorem s01 : KnE P (6, [q (vL 0 1) 0], vS 0 1) := pureB_ok Pok kn1_ok (fuel := 20000) (v := vS 0 1) rfl (by kernel_rfl)
theorem t02 : KnE P (30, [.str (tx 0 2)], vT 0 2) := fun s => (show LV.tup [encToks (tokensF (tx 0 2)).1, .int .i64 (tokensF (tx 0 2)).2.1, .int .i64 (tokensF (tx 0 2)).2.2] = vT 0 2 by kernel_rfl) ▸ tokens (tx 0 2) s
theorem p02 : KnE P (13, [.str (tx 0 2)], vP 0 2) := pureB_ok Pok (knTab_ok kn1_ok (KnOk.cons t02 .nil : KnOk P [(30, [.str (tx 0 2)], vT 0 2)])) (fuel := 20000) (v := vP 0 2) rfl (by kernel_rfl)
theorem x02 : KnE P (12, [q (vB 0 2) 0, q (vH 0 2) 0], .bool true) := pureB_ok Pok kn1_ok (fuel := 20000) (v := .bool true) rfl (by kernel_rfl)
theorem l02 : KnE P (14, [q (vP 0 2) 0], vL 0 2) := pureB_ok Pok (knTab_ok kn1_ok (KnOk.cons (kC 0 2) (.cons (kM 0 2) .nil) : KnOk P [(38, [q (vP 0 2) 0], vC 0 2), (39, [q (vP 0 2) 0], vM 0 2)])) (fuel := 20000) (v := vL 0 2) rfl (by kernel_rfl)
theorem s02 : KnE P (6, [q (vL 0 2) 0], vS 0 2) := pureB_ok Pok kn1_ok (fuel := 20000) (v := vS 0 2) rfl (by kernel_rfl)
theorem t03 : KnE P (30, [.str (tx 0 3)], vT 0 3) := fun s => (show LV.tup [encToks (tokensF (tx 0 3)).1, .int .i64 (tokensF (tx 0 3)).2.1, .int .i64 (tokensF (tx 0 3)).2.2] = vT 0 3 by kernel_rfl) ▸ tokens (tx 0 3) s
theorem p03 : KnE P (13, [.str (tx 0 3)], vP 0 3) := pureB_ok Pok (knTab_ok kn1_ok (KnOk.cons t03 .nil : KnOk P [(30, [.str (tx 0 3)], vT 0 3)])) (fuel := 20000) (v := vP 0 3) rfl (by kernel_rfl)
theorem x03 : KnE P (12, [q (vB 0 3) 0, q (vH 0 3) 0], .bool true) := pureB_ok Pok kn1_ok (fuel := 20000) (v := .bool true) rfl (by kernel_rfl)
theorem l03 : KnE P (14, [q (vP 0 3) 0], vL 0 3) := pureB_ok Pok (knTab_ok kn1_ok (KnOk.cons (kC 0 3) (.cons (kM 0 3) .nil) : KnOk P [(38, [q (vP 0 3) 0], vC 0 3), (39, [q (vP 0 3) 0], vM 0 3)])) (fuel := 20000) (v := vL 0 3) rfl (by kernel_rfl)
theorem s03 : KnE P (6, [q (vL 0 3) 0], vS 0 3) := pureB_ok Pok kn1_ok (fuel := 20000) (v := vS 0 3) rfl (by kernel_rfl)
theorem t04 : KnE P (30, [.str (tx 0 4)], vT 0 4) := fun s => (show LV.tup [encToks (tokensF (tx 0 4)).1, .int .i64 (tokensF (tx 0 4)).2.1, .int .i64 (tokensF (tx 0 4)).2.2] = vT 0 4 by kernel_rfl) ▸ tokens (tx 0 4) s
theorem p04 : KnE P (13, [.str (tx 0 4)], vP 0 4) := pureB_ok Pok (knTab_ok kn1_ok (KnOk.cons t04 .nil : KnOk P [(30, [.str (tx 0 4)], vT 0 4)])) (fuel := 20000) (v := vP 0 4) rfl (by kernel_rfl)
theorem x04 : KnE P (12, [q (vB 0 4) 0, q (vH 0 4) 0], .bool true) := pureB_ok Pok kn1_ok (fuel := 20000) (v := .bool true) rfl (by kernel_rfl)
theorem l04 : KnE P (14, [q (vP 0 4) 0], vL 0 4) := pureB_ok Pok (knTab_ok kn1_ok (KnOk.cons (kC 0 4) (.cons (kM 0 4) .nil) : KnOk P [(38, [q (vP 0 4) 0], vC 0 4), (39, [q (vP 0 4) 0], vM 0 4)])) (fuel := 20000) (v := vL 0 4) rfl (by kernel_rfl)
theorem s04 : KnE P (6, [q (vL 0 4) 0], vS 0 4) := pureB_ok Pok kn1_ok (fuel := 20000) (v := vS 0 4) rfl (by kernel_rfl)
theorem t05 : KnE P (30, [.str (tx 0 5)], vT 0 5) := fun s => (show LV.tup [encToks (tokensF (tx 0 5)).1, .int .i64 (tokensF (tx 0 5)).2.1, .int .i64 (tokensF (tx 0 5)).2.2] = vT 0 5 by kernel_rfl) ▸ tokens (tx 0 5) s
theorem p05 : KnE P (13, [.str (tx 0 5)], vP 0 5) := pureB_ok Pok (knTab_ok kn1_ok (KnOk.cons t05 .nil : KnOk P [(30, [.str (tx 0 5)], vT 0 5)])) (fuel := 20000) (v := vP 0 5) rfl (by kernel_rfl)
theorem x05 : KnE P (12, [q (vB 0 5) 0, q (vH 0 5) 0], .bool true) := pureB_ok Pok kn1_ok (fuel := 20000) (v := .bool true) rfl (by kernel_rfl)
theorem l05 : KnE P (14, [q (vP 0 5) 0], vL 0 5) := pureB_ok Pok (knTab_ok kn1_ok (KnOk.cons (kC 0 5) (.cons (kM 0 5) .nil) : KnOk P [(38, [q (vP 0 5) 0], vC 0 5), (39, [q (vP 0 5) 0], vM 0 5)])) (fuel := 20000) (v := vL 0 5) rfl (by kernel_rfl)
theorem s05 : KnE P (6, [q (vL 0 5) 0], vS 0 5) := pureB_ok Pok kn1_ok (fuel := 20000) (v := vS 0 5) rfl (by kernel_rfl)
theorem t06 : KnE P (30, [.str (tx 0 6)], vT 0 6) := fun s => (show LV.tup [encToks (tokensF (tx 0 6)).1, .int .i64 (tokensF (tx 0 6)).2.1, .int .i64 (tokensF (tx 0 6)).2.2] = vT 0 6 by kernel_rfl) ▸ tokens (tx 0 6) s
theorem p06 : KnE P (13, [.str (tx 0 6)], vP 0 6) := pureB_ok Pok (knTab_ok kn1_ok (KnOk.cons t06 .nil : KnOk P [(30, [.str (tx 0 6)], vT 0 6)])) (fuel := 20000) (v := vP 0 6) rfl (by kernel_rfl)
theorem x06 : KnE P (12, [q (vB 0 6) 0, q (vH 0 6) 0], .bool true) := pureB_ok Pok kn1_ok (fuel := 20000) (v := .bool true) rfl (by kernel_rfl)
theorem l06 : KnE P (14, [q (vP 0 6) 0], vL 0 6) := pureB_ok Pok (knTab_ok kn1_ok (KnOk.cons (kC 0 6) (.cons (kM 0 6) .nil) : KnOk P [(38, [q (vP 0 6) 0], vC 0 6), (39, [q (vP 0 6) 0], vM 0 6)])) (fuel := 20000) (v := vL 0 6) rfl (by kernel_rfl)
theorem s06 : KnE P (6, [q (vL 0 6) 0], vS 0 6) := pureB_ok Pok kn1_ok (fuel := 20000) (v := vS 0 6) rfl (by kernel_rfl)
theorem t07 : KnE P (30, [.str (tx 0 7)], vT 0 7) := fun s => (show LV.tup [encToks (tokensF (tx 0 7)).1, .int .i64 (tokensF (tx 0 7)).2.1, .int .i64 (tokensF (tx 0 7)).2.2] = vT 0 7 by kernel_rfl) ▸ tokens (tx 0 7) s
theorem p07 : KnE P (13, [.str (tx 0 7)], vP 0 7) := pureB_ok Pok (knTab_ok kn1_ok (KnOk.cons t07 .nil : KnOk P [(30, [.str (tx 0 7)], vT 0 7)])) (fuel := 20000) (v := vP 0 7) rfl (by kernel_rfl)
theorem x07 : KnE P (12, [q (vB 0 7) 0, q (vH 0 7) 0], .bool true) := pureB_ok Pok kn1_ok (fuel := 20000) (v := .bool true) rfl (by kernel_rfl)
theorem l07 : KnE P (14, [q (vP 0 7) 0], vL 0 7) := pureB_ok Pok (knTab_ok kn1_ok (KnOk.cons (kC 0 7) (.cons (kM 0 7) .nil) : KnOk P [(38, [q (vP 0 7) 0], vC 0 7), (39, [q (vP 0 7) 0], vM 0 7)])) (fuel := 20000) (v := vL 0 7) rfl (by kernel_rfl)
theorem s07 : KnE P (6, [q (vL 0 7) 0], vS 0 7) := pureB_ok Pok kn1_ok (fuel := 20000) (v := vS 0 7) rfl (by kernel_rfl)
theorem t08 : KnE P (30, [.str (tx 0 8)], vT 0 8) := fun s => (show LV.tup [encToks (tokensF (tx 0 8)).1, .int .i64 (tokensF (tx 0 8)).2.1, .int .i64 (tokensF (tx 0 8)).2.2] = vT 0 8 by kernel_rfl) ▸ tokens (tx 0 8) s
theorem p08 : KnE P (13, [.str (tx 0 8)], vP 0 8) := pureB_ok Pok (knTab_ok kn1_ok (KnOk.cons t08 .nil : KnOk P [(30, [.str (tx 0 8)], vT 0 8)])) (fuel := 20000) (v := vP 0 8) rfl (by kernel_rfl)
theorem x08 : KnE P (12, [q (vB 0 8) 0, q (vH 0 8) 0], .bool true) := pureB_ok Pok kn1_ok (fuel := 20000) (v := .bool true) rfl (by kernel_rfl)
theorem l08 : KnE P (14, [q (vP 0 8) 0], vL 0 8) := pureB_ok Pok (knTab_ok kn1_ok (KnOk.cons (kC 0 8) (.cons (kM 0 8) .nil) : KnOk P [(38, [q (vP 0 8) 0], vC 0 8), (39, [q (vP 0 8) 0], vM 0 8)])) (fuel := 20000) (v := vL 0 8) rfl (by kernel_rfl)
theorem s08 : KnE P (6, [q (vL 0 8) 0], vS 0 8) := pureB_ok Pok kn1_ok (fuel := 20000) (v := vS 0 8) rfl (by kernel_rfl)
theorem p0 : ∀ m, m < 9 → KnE P (13, [.str (tx 0 m)], vP 0 m) := fun m h => match m, h with
  | 0, _ => p00
  | 1, _ => p01
  | 2, _ => p02
  | 3, _ => p03
  | 4, _ => p04
  | 5, _ => p05
  | 6, _ => p06
  | 7, _ => p07
  | 8, _ => p08
  | k + 9, h => absurd h (by omega)
theorem x0 : ∀ m, m < 9 → KnE P (12, [q (vB 0 m) 0, q (vH 0 m) 0], .bool true) := fun m h => match m, h with
  | 0, _ => x00
  | 1, _ => x01
  | 2, _ => x02
  | 3, _ => x03
  | 4, _ => x04
  | 5, _ => x05
  | 6, _ => x06
  | 7, _ => x07
  | 8, _ => x08
  | k + 9, h => absurd h (by omega)
theorem l0 : ∀ m, m < 9 → KnE P (14, [q (vP 0 m) 0], vL 0 m) := fun m h => match m, h with
  | 0, _ => l00
  | 1, _ => l01
  | 2, _ => l02
  | 3, _ => l03
  | 4, _ => l04
  | 5, _ => l05
  | 6, _ => l06
  | 7, _ => l07
  | 8, _ => l08
  | k + 9, h => absurd h (by omega)
theorem s0 : ∀ m, m < 9 → KnE P (6, [q (vL 0 m) 0], vS 0 m) := fun m h => match m, h with
  | 0, _ => s00
  | 1, _ => s01
  | 2, _ => s02
  | 3, _ => s03
  | 4, _ => s04
  | 5, _ => s05
  | 6, _ => s06
  | 7, _ => s07
  | 8, _ => s08
  | k + 9, h => absurd h (by omega)
end Ts.apart
