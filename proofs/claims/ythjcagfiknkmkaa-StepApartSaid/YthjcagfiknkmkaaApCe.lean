/- StepApart's texts: printed by wip/tools/apart.py. -/
import Derived.Test.YthjcagfiknkmkaaApA
set_option maxRecDepth 1000000
namespace Ts.apart
open Go Den
theorem t40 : KnE P (30, [.str (tx 4 0)], vT 4 0) := fun s => (show LV.tup [encToks (tokensF (tx 4 0)).1, .int .i64 (tokensF (tx 4 0)).2.1, .int .i64 (tokensF (tx 4 0)).2.2] = vT 4 0 by kernel_rfl) ▸ tokens (tx 4 0) s
theorem p40 : KnE P (13, [.str (tx 4 0)], vP 4 0) := pureB_ok Pok (knTab_ok kn1_ok (KnOk.cons t40 .nil : KnOk P [(30, [.str (tx 4 0)], vT 4 0)])) (fuel := 20000) (v := vP 4 0) rfl (by kernel_rfl)
theorem x40 : KnE P (12, [q (vB 4 0) 0, q (vH 4 0) 0], .bool true) := pureB_ok Pok kn1_ok (fuel := 20000) (v := .bool true) rfl (by kernel_rfl)
theorem l40 : KnE P (14, [q (vP 4 0) 0], vL 4 0) := pureB_ok Pok (knTab_ok kn1_ok (KnOk.cons (kC 4 0) (.cons (kM 4 0) .nil) : KnOk P [(38, [q (vP 4 0) 0], vC 4 0), (39, [q (vP 4 0) 0], vM 4 0)])) (fuel := 20000) (v := vL 4 0) rfl (by kernel_rfl)
theorem s40 : KnE P (6, [q (vL 4 0) 0], vS 4 0) := pureB_ok Pok kn1_ok (fuel := 20000) (v := vS 4 0) rfl (by kernel_rfl)
theorem t41 : KnE P (30, [.str (tx 4 1)], vT 4 1) := fun s => (show LV.tup [encToks (tokensF (tx 4 1)).1, .int .i64 (tokensF (tx 4 1)).2.1, .int .i64 (tokensF (tx 4 1)).2.2] = vT 4 1 by kernel_rfl) ▸ tokens (tx 4 1) s
theorem p41 : KnE P (13, [.str (tx 4 1)], vP 4 1) := pureB_ok Pok (knTab_ok kn1_ok (KnOk.cons t41 .nil : KnOk P [(30, [.str (tx 4 1)], vT 4 1)])) (fuel := 20000) (v := vP 4 1) rfl (by kernel_rfl)
theorem x41 : KnE P (12, [q (vB 4 1) 0, q (vH 4 1) 0], .bool true) := pureB_ok Pok kn1_ok (fuel := 20000) (v := .bool true) rfl (by kernel_rfl)
theorem l41 : KnE P (14, [q (vP 4 1) 0], vL 4 1) := pureB_ok Pok (knTab_ok kn1_ok (KnOk.cons (kC 4 1) (.cons (kM 4 1) .nil) : KnOk P [(38, [q (vP 4 1) 0], vC 4 1), (39, [q (vP 4 1) 0], vM 4 1)])) (fuel := 20000) (v := vL 4 1) rfl (by kernel_rfl)
theorem s41 : KnE P (6, [q (vL 4 1) 0], vS 4 1) := pureB_ok Pok kn1_ok (fuel := 20000) (v := vS 4 1) rfl (by kernel_rfl)
theorem t42 : KnE P (30, [.str (tx 4 2)], vT 4 2) := fun s => (show LV.tup [encToks (tokensF (tx 4 2)).1, .int .i64 (tokensF (tx 4 2)).2.1, .int .i64 (tokensF (tx 4 2)).2.2] = vT 4 2 by kernel_rfl) ▸ tokens (tx 4 2) s
theorem p42 : KnE P (13, [.str (tx 4 2)], vP 4 2) := pureB_ok Pok (knTab_ok kn1_ok (KnOk.cons t42 .nil : KnOk P [(30, [.str (tx 4 2)], vT 4 2)])) (fuel := 20000) (v := vP 4 2) rfl (by kernel_rfl)
theorem x42 : KnE P (12, [q (vB 4 2) 0, q (vH 4 2) 0], .bool true) := pureB_ok Pok kn1_ok (fuel := 20000) (v := .bool true) rfl (by kernel_rfl)
theorem l42 : KnE P (14, [q (vP 4 2) 0], vL 4 2) := pureB_ok Pok (knTab_ok kn1_ok (KnOk.cons (kC 4 2) (.cons (kM 4 2) .nil) : KnOk P [(38, [q (vP 4 2) 0], vC 4 2), (39, [q (vP 4 2) 0], vM 4 2)])) (fuel := 20000) (v := vL 4 2) rfl (by kernel_rfl)
theorem s42 : KnE P (6, [q (vL 4 2) 0], vS 4 2) := pureB_ok Pok kn1_ok (fuel := 20000) (v := vS 4 2) rfl (by kernel_rfl)
theorem t43 : KnE P (30, [.str (tx 4 3)], vT 4 3) := fun s => (show LV.tup [encToks (tokensF (tx 4 3)).1, .int .i64 (tokensF (tx 4 3)).2.1, .int .i64 (tokensF (tx 4 3)).2.2] = vT 4 3 by kernel_rfl) ▸ tokens (tx 4 3) s
theorem p43 : KnE P (13, [.str (tx 4 3)], vP 4 3) := pureB_ok Pok (knTab_ok kn1_ok (KnOk.cons t43 .nil : KnOk P [(30, [.str (tx 4 3)], vT 4 3)])) (fuel := 20000) (v := vP 4 3) rfl (by kernel_rfl)
theorem x43 : KnE P (12, [q (vB 4 3) 0, q (vH 4 3) 0], .bool true) := pureB_ok Pok kn1_ok (fuel := 20000) (v := .bool true) rfl (by kernel_rfl)
theorem l43 : KnE P (14, [q (vP 4 3) 0], vL 4 3) := pureB_ok Pok (knTab_ok kn1_ok (KnOk.cons (kC 4 3) (.cons (kM 4 3) .nil) : KnOk P [(38, [q (vP 4 3) 0], vC 4 3), (39, [q (vP 4 3) 0], vM 4 3)])) (fuel := 20000) (v := vL 4 3) rfl (by kernel_rfl)
theorem s43 : KnE P (6, [q (vL 4 3) 0], vS 4 3) := pureB_ok Pok kn1_ok (fuel := 20000) (v := vS 4 3) rfl (by kernel_rfl)
theorem t44 : KnE P (30, [.str (tx 4 4)], vT 4 4) := fun s => (show LV.tup [encToks (tokensF (tx 4 4)).1, .int .i64 (tokensF (tx 4 4)).2.1, .int .i64 (tokensF (tx 4 4)).2.2] = vT 4 4 by kernel_rfl) ▸ tokens (tx 4 4) s
theorem p44 : KnE P (13, [.str (tx 4 4)], vP 4 4) := pureB_ok Pok (knTab_ok kn1_ok (KnOk.cons t44 .nil : KnOk P [(30, [.str (tx 4 4)], vT 4 4)])) (fuel := 20000) (v := vP 4 4) rfl (by kernel_rfl)
theorem x44 : KnE P (12, [q (vB 4 4) 0, q (vH 4 4) 0], .bool true) := pureB_ok Pok kn1_ok (fuel := 20000) (v := .bool true) rfl (by kernel_rfl)
theorem l44 : KnE P (14, [q (vP 4 4) 0], vL 4 4) := pureB_ok Pok (knTab_ok kn1_ok (KnOk.cons (kC 4 4) (.cons (kM 4 4) .nil) : KnOk P [(38, [q (vP 4 4) 0], vC 4 4), (39, [q (vP 4 4) 0], vM 4 4)])) (fuel := 20000) (v := vL 4 4) rfl (by kernel_rfl)
theorem s44 : KnE P (6, [q (vL 4 4) 0], vS 4 4) := pureB_ok Pok kn1_ok (fuel := 20000) (v := vS 4 4) rfl (by kernel_rfl)
theorem t45 : KnE P (30, [.str (tx 4 5)], vT 4 5) := fun s => (show LV.tup [encToks (tokensF (tx 4 5)).1, .int .i64 (tokensF (tx 4 5)).2.1, .int .i64 (tokensF (tx 4 5)).2.2] = vT 4 5 by kernel_rfl) ▸ tokens (tx 4 5) s
theorem p45 : KnE P (13, [.str (tx 4 5)], vP 4 5) := pureB_ok Pok (knTab_ok kn1_ok (KnOk.cons t45 .nil : KnOk P [(30, [.str (tx 4 5)], vT 4 5)])) (fuel := 20000) (v := vP 4 5) rfl (by kernel_rfl)
theorem x45 : KnE P (12, [q (vB 4 5) 0, q (vH 4 5) 0], .bool true) := pureB_ok Pok kn1_ok (fuel := 20000) (v := .bool true) rfl (by kernel_rfl)
theorem l45 : KnE P (14, [q (vP 4 5) 0], vL 4 5) := pureB_ok Pok (knTab_ok kn1_ok (KnOk.cons (kC 4 5) (.cons (kM 4 5) .nil) : KnOk P [(38, [q (vP 4 5) 0], vC 4 5), (39, [q (vP 4 5) 0], vM 4 5)])) (fuel := 20000) (v := vL 4 5) rfl (by kernel_rfl)
theorem s45 : KnE P (6, [q (vL 4 5) 0], vS 4 5) := pureB_ok Pok kn1_ok (fuel := 20000) (v := vS 4 5) rfl (by kernel_rfl)
theorem t46 : KnE P (30, [.str (tx 4 6)], vT 4 6) := fun s => (show LV.tup [encToks (tokensF (tx 4 6)).1, .int .i64 (tokensF (tx 4 6)).2.1, .int .i64 (tokensF (tx 4 6)).2.2] = vT 4 6 by kernel_rfl) ▸ tokens (tx 4 6) s
theorem p46 : KnE P (13, [.str (tx 4 6)], vP 4 6) := pureB_ok Pok (knTab_ok kn1_ok (KnOk.cons t46 .nil : KnOk P [(30, [.str (tx 4 6)], vT 4 6)])) (fuel := 20000) (v := vP 4 6) rfl (by kernel_rfl)
theorem x46 : KnE P (12, [q (vB 4 6) 0, q (vH 4 6) 0], .bool true) := pureB_ok Pok kn1_ok (fuel := 20000) (v := .bool true) rfl (by kernel_rfl)
theorem l46 : KnE P (14, [q (vP 4 6) 0], vL 4 6) := pureB_ok Pok (knTab_ok kn1_ok (KnOk.cons (kC 4 6) (.cons (kM 4 6) .nil) : KnOk P [(38, [q (vP 4 6) 0], vC 4 6), (39, [q (vP 4 6) 0], vM 4 6)])) (fuel := 20000) (v := vL 4 6) rfl (by kernel_rfl)
theorem s46 : KnE P (6, [q (vL 4 6) 0], vS 4 6) := pureB_ok Pok kn1_ok (fuel := 20000) (v := vS 4 6) rfl (by kernel_rfl)
theorem t47 : KnE P (30, [.str (tx 4 7)], vT 4 7) := fun s => (show LV.tup [encToks (tokensF (tx 4 7)).1, .int .i64 (tokensF (tx 4 7)).2.1, .int .i64 (tokensF (tx 4 7)).2.2] = vT 4 7 by kernel_rfl) ▸ tokens (tx 4 7) s
theorem p47 : KnE P (13, [.str (tx 4 7)], vP 4 7) := pureB_ok Pok (knTab_ok kn1_ok (KnOk.cons t47 .nil : KnOk P [(30, [.str (tx 4 7)], vT 4 7)])) (fuel := 20000) (v := vP 4 7) rfl (by kernel_rfl)
theorem x47 : KnE P (12, [q (vB 4 7) 0, q (vH 4 7) 0], .bool true) := pureB_ok Pok kn1_ok (fuel := 20000) (v := .bool true) rfl (by kernel_rfl)
theorem l47 : KnE P (14, [q (vP 4 7) 0], vL 4 7) := pureB_ok Pok (knTab_ok kn1_ok (KnOk.cons (kC 4 7) (.cons (kM 4 7) .nil) : KnOk P [(38, [q (vP 4 7) 0], vC 4 7), (39, [q (vP 4 7) 0], vM 4 7)])) (fuel := 20000) (v := vL 4 7) rfl (by kernel_rfl)
theorem s47 : KnE P (6, [q (vL 4 7) 0], vS 4 7) := pureB_ok Pok kn1_ok (fuel := 20000) (v := vS 4 7) rfl (by kernel_rfl)
theorem t48 : KnE P (30, [.str (tx 4 8)], vT 4 8) := fun s => (show LV.tup [encToks (tokensF (tx 4 8)).1, .int .i64 (tokensF (tx 4 8)).2.1, .int .i64 (tokensF (tx 4 8)).2.2] = vT 4 8 by kernel_rfl) ▸ tokens (tx 4 8) s
theorem p48 : KnE P (13, [.str (tx 4 8)], vP 4 8) := pureB_ok Pok (knTab_ok kn1_ok (KnOk.cons t48 .nil : KnOk P [(30, [.str (tx 4 8)], vT 4 8)])) (fuel := 20000) (v := vP 4 8) rfl (by kernel_rfl)
theorem x48 : KnE P (12, [q (vB 4 8) 0, q (vH 4 8) 0], .bool true) := pureB_ok Pok kn1_ok (fuel := 20000) (v := .bool true) rfl (by kernel_rfl)
theorem l48 : KnE P (14, [q (vP 4 8) 0], vL 4 8) := pureB_ok Pok (knTab_ok kn1_ok (KnOk.cons (kC 4 8) (.cons (kM 4 8) .nil) : KnOk P [(38, [q (vP 4 8) 0], vC 4 8), (39, [q (vP 4 8) 0], vM 4 8)])) (fuel := 20000) (v := vL 4 8) rfl (by kernel_rfl)
theorem s48 : KnE P (6, [q (vL 4 8) 0], vS 4 8) := pureB_ok Pok kn1_ok (fuel := 20000) (v := vS 4 8) rfl (by kernel_rfl)
theorem p4 : ∀ m, m < 9 → KnE P (13, [.str (tx 4 m)], vP 4 m) := fun m h => match m, h with
  | 0, _ => p40
  | 1, _ => p41
  | 2, _ => p42
  | 3, _ => p43
  | 4, _ => p44
  | 5, _ => p45
  | 6, _ => p46
  | 7, _ => p47
  | 8, _ => p48
  | k + 9, h => absurd h (by omega)
theorem x4 : ∀ m, m < 9 → KnE P (12, [q (vB 4 m) 0, q (vH 4 m) 0], .bool true) := fun m h => match m, h with
  | 0, _ => x40
  | 1, _ => x41
  | 2, _ => x42
  | 3, _ => x43
  | 4, _ => x44
  | 5, _ => x45
  | 6, _ => x46
  | 7, _ => x47
  | 8, _ => x48
  | k + 9, h => absurd h (by omega)
theorem l4 : ∀ m, m < 9 → KnE P (14, [q (vP 4 m) 0], vL 4 m) := fun m h => match m, h with
  | 0, _ => l40
  | 1, _ => l41
  | 2, _ => l42
  | 3, _ => l43
  | 4, _ => l44
  | 5, _ => l45
  | 6, _ => l46
  | 7, _ => l47
  | 8, _ => l48
  | k + 9, h => absurd h (by omega)
theorem s4 : ∀ m, m < 9 → KnE P (6, [q (vL 4 m) 0], vS 4 m) := fun m h => match m, h with
  | 0, _ => s40
  | 1, _ => s41
  | 2, _ => s42
  | 3, _ => s43
  | 4, _ => s44
  | 5, _ => s45
  | 6, _ => s46
  | 7, _ => s47
  | 8, _ => s48
  | k + 9, h => absurd h (by omega)
end Ts.apart
