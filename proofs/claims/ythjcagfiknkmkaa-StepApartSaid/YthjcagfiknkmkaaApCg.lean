/- StepApart's texts: printed by wip/tools/apart.py. -/
import Derived.Test.YthjcagfiknkmkaaApA
set_option maxRecDepth 1000000
namespace Ts.apart
open Go Den
theorem t60 : KnE P (30, [.str (tx 6 0)], vT 6 0) := fun s => (show LV.tup [encToks (tokensF (tx 6 0)).1, .int .i64 (tokensF (tx 6 0)).2.1, .int .i64 (tokensF (tx 6 0)).2.2] = vT 6 0 by kernel_rfl) ▸ tokens (tx 6 0) s
theorem p60 : KnE P (13, [.str (tx 6 0)], vP 6 0) := pureB_ok Pok (knTab_ok kn1_ok (KnOk.cons t60 .nil : KnOk P [(30, [.str (tx 6 0)], vT 6 0)])) (fuel := 20000) (v := vP 6 0) rfl (by kernel_rfl)
theorem x60 : KnE P (12, [q (vB 6 0) 0, q (vH 6 0) 0], .bool true) := pureB_ok Pok kn1_ok (fuel := 20000) (v := .bool true) rfl (by kernel_rfl)
theorem l60 : KnE P (14, [q (vP 6 0) 0], vL 6 0) := pureB_ok Pok (knTab_ok kn1_ok (KnOk.cons (kC 6 0) (.cons (kM 6 0) .nil) : KnOk P [(38, [q (vP 6 0) 0], vC 6 0), (39, [q (vP 6 0) 0], vM 6 0)])) (fuel := 20000) (v := vL 6 0) rfl (by kernel_rfl)
theorem s60 : KnE P (6, [q (vL 6 0) 0], vS 6 0) := pureB_ok Pok kn1_ok (fuel := 20000) (v := vS 6 0) rfl (by kernel_rfl)
theorem t61 : KnE P (30, [.str (tx 6 1)], vT 6 1) := fun s => (show LV.tup [encToks (tokensF (tx 6 1)).1, .int .i64 (tokensF (tx 6 1)).2.1, .int .i64 (tokensF (tx 6 1)).2.2] = vT 6 1 by kernel_rfl) ▸ tokens (tx 6 1) s
theorem p61 : KnE P (13, [.str (tx 6 1)], vP 6 1) := pureB_ok Pok (knTab_ok kn1_ok (KnOk.cons t61 .nil : KnOk P [(30, [.str (tx 6 1)], vT 6 1)])) (fuel := 20000) (v := vP 6 1) rfl (by kernel_rfl)
theorem x61 : KnE P (12, [q (vB 6 1) 0, q (vH 6 1) 0], .bool true) := pureB_ok Pok kn1_ok (fuel := 20000) (v := .bool true) rfl (by kernel_rfl)
theorem l61 : KnE P (14, [q (vP 6 1) 0], vL 6 1) := pureB_ok Pok (knTab_ok kn1_ok (KnOk.cons (kC 6 1) (.cons (kM 6 1) .nil) : KnOk P [(38, [q (vP 6 1) 0], vC 6 1), (39, [q (vP 6 1) 0], vM 6 1)])) (fuel := 20000) (v := vL 6 1) rfl (by kernel_rfl)
theorem s61 : KnE P (6, [q (vL 6 1) 0], vS 6 1) := pureB_ok Pok kn1_ok (fuel := 20000) (v := vS 6 1) rfl (by kernel_rfl)
theorem t62 : KnE P (30, [.str (tx 6 2)], vT 6 2) := fun s => (show LV.tup [encToks (tokensF (tx 6 2)).1, .int .i64 (tokensF (tx 6 2)).2.1, .int .i64 (tokensF (tx 6 2)).2.2] = vT 6 2 by kernel_rfl) ▸ tokens (tx 6 2) s
theorem p62 : KnE P (13, [.str (tx 6 2)], vP 6 2) := pureB_ok Pok (knTab_ok kn1_ok (KnOk.cons t62 .nil : KnOk P [(30, [.str (tx 6 2)], vT 6 2)])) (fuel := 20000) (v := vP 6 2) rfl (by kernel_rfl)
theorem x62 : KnE P (12, [q (vB 6 2) 0, q (vH 6 2) 0], .bool true) := pureB_ok Pok kn1_ok (fuel := 20000) (v := .bool true) rfl (by kernel_rfl)
theorem l62 : KnE P (14, [q (vP 6 2) 0], vL 6 2) := pureB_ok Pok (knTab_ok kn1_ok (KnOk.cons (kC 6 2) (.cons (kM 6 2) .nil) : KnOk P [(38, [q (vP 6 2) 0], vC 6 2), (39, [q (vP 6 2) 0], vM 6 2)])) (fuel := 20000) (v := vL 6 2) rfl (by kernel_rfl)
theorem s62 : KnE P (6, [q (vL 6 2) 0], vS 6 2) := pureB_ok Pok kn1_ok (fuel := 20000) (v := vS 6 2) rfl (by kernel_rfl)
theorem t63 : KnE P (30, [.str (tx 6 3)], vT 6 3) := fun s => (show LV.tup [encToks (tokensF (tx 6 3)).1, .int .i64 (tokensF (tx 6 3)).2.1, .int .i64 (tokensF (tx 6 3)).2.2] = vT 6 3 by kernel_rfl) ▸ tokens (tx 6 3) s
theorem p63 : KnE P (13, [.str (tx 6 3)], vP 6 3) := pureB_ok Pok (knTab_ok kn1_ok (KnOk.cons t63 .nil : KnOk P [(30, [.str (tx 6 3)], vT 6 3)])) (fuel := 20000) (v := vP 6 3) rfl (by kernel_rfl)
theorem x63 : KnE P (12, [q (vB 6 3) 0, q (vH 6 3) 0], .bool true) := pureB_ok Pok kn1_ok (fuel := 20000) (v := .bool true) rfl (by kernel_rfl)
theorem l63 : KnE P (14, [q (vP 6 3) 0], vL 6 3) := pureB_ok Pok (knTab_ok kn1_ok (KnOk.cons (kC 6 3) (.cons (kM 6 3) .nil) : KnOk P [(38, [q (vP 6 3) 0], vC 6 3), (39, [q (vP 6 3) 0], vM 6 3)])) (fuel := 20000) (v := vL 6 3) rfl (by kernel_rfl)
theorem s63 : KnE P (6, [q (vL 6 3) 0], vS 6 3) := pureB_ok Pok kn1_ok (fuel := 20000) (v := vS 6 3) rfl (by kernel_rfl)
theorem t64 : KnE P (30, [.str (tx 6 4)], vT 6 4) := fun s => (show LV.tup [encToks (tokensF (tx 6 4)).1, .int .i64 (tokensF (tx 6 4)).2.1, .int .i64 (tokensF (tx 6 4)).2.2] = vT 6 4 by kernel_rfl) ▸ tokens (tx 6 4) s
theorem p64 : KnE P (13, [.str (tx 6 4)], vP 6 4) := pureB_ok Pok (knTab_ok kn1_ok (KnOk.cons t64 .nil : KnOk P [(30, [.str (tx 6 4)], vT 6 4)])) (fuel := 20000) (v := vP 6 4) rfl (by kernel_rfl)
theorem x64 : KnE P (12, [q (vB 6 4) 0, q (vH 6 4) 0], .bool true) := pureB_ok Pok kn1_ok (fuel := 20000) (v := .bool true) rfl (by kernel_rfl)
theorem l64 : KnE P (14, [q (vP 6 4) 0], vL 6 4) := pureB_ok Pok (knTab_ok kn1_ok (KnOk.cons (kC 6 4) (.cons (kM 6 4) .nil) : KnOk P [(38, [q (vP 6 4) 0], vC 6 4), (39, [q (vP 6 4) 0], vM 6 4)])) (fuel := 20000) (v := vL 6 4) rfl (by kernel_rfl)
theorem s64 : KnE P (6, [q (vL 6 4) 0], vS 6 4) := pureB_ok Pok kn1_ok (fuel := 20000) (v := vS 6 4) rfl (by kernel_rfl)
theorem t65 : KnE P (30, [.str (tx 6 5)], vT 6 5) := fun s => (show LV.tup [encToks (tokensF (tx 6 5)).1, .int .i64 (tokensF (tx 6 5)).2.1, .int .i64 (tokensF (tx 6 5)).2.2] = vT 6 5 by kernel_rfl) ▸ tokens (tx 6 5) s
theorem p65 : KnE P (13, [.str (tx 6 5)], vP 6 5) := pureB_ok Pok (knTab_ok kn1_ok (KnOk.cons t65 .nil : KnOk P [(30, [.str (tx 6 5)], vT 6 5)])) (fuel := 20000) (v := vP 6 5) rfl (by kernel_rfl)
theorem x65 : KnE P (12, [q (vB 6 5) 0, q (vH 6 5) 0], .bool true) := pureB_ok Pok kn1_ok (fuel := 20000) (v := .bool true) rfl (by kernel_rfl)
theorem l65 : KnE P (14, [q (vP 6 5) 0], vL 6 5) := pureB_ok Pok (knTab_ok kn1_ok (KnOk.cons (kC 6 5) (.cons (kM 6 5) .nil) : KnOk P [(38, [q (vP 6 5) 0], vC 6 5), (39, [q (vP 6 5) 0], vM 6 5)])) (fuel := 20000) (v := vL 6 5) rfl (by kernel_rfl)
theorem s65 : KnE P (6, [q (vL 6 5) 0], vS 6 5) := pureB_ok Pok kn1_ok (fuel := 20000) (v := vS 6 5) rfl (by kernel_rfl)
theorem t66 : KnE P (30, [.str (tx 6 6)], vT 6 6) := fun s => (show LV.tup [encToks (tokensF (tx 6 6)).1, .int .i64 (tokensF (tx 6 6)).2.1, .int .i64 (tokensF (tx 6 6)).2.2] = vT 6 6 by kernel_rfl) ▸ tokens (tx 6 6) s
theorem p66 : KnE P (13, [.str (tx 6 6)], vP 6 6) := pureB_ok Pok (knTab_ok kn1_ok (KnOk.cons t66 .nil : KnOk P [(30, [.str (tx 6 6)], vT 6 6)])) (fuel := 20000) (v := vP 6 6) rfl (by kernel_rfl)
theorem x66 : KnE P (12, [q (vB 6 6) 0, q (vH 6 6) 0], .bool true) := pureB_ok Pok kn1_ok (fuel := 20000) (v := .bool true) rfl (by kernel_rfl)
theorem l66 : KnE P (14, [q (vP 6 6) 0], vL 6 6) := pureB_ok Pok (knTab_ok kn1_ok (KnOk.cons (kC 6 6) (.cons (kM 6 6) .nil) : KnOk P [(38, [q (vP 6 6) 0], vC 6 6), (39, [q (vP 6 6) 0], vM 6 6)])) (fuel := 20000) (v := vL 6 6) rfl (by kernel_rfl)
theorem s66 : KnE P (6, [q (vL 6 6) 0], vS 6 6) := pureB_ok Pok kn1_ok (fuel := 20000) (v := vS 6 6) rfl (by kernel_rfl)
theorem t67 : KnE P (30, [.str (tx 6 7)], vT 6 7) := fun s => (show LV.tup [encToks (tokensF (tx 6 7)).1, .int .i64 (tokensF (tx 6 7)).2.1, .int .i64 (tokensF (tx 6 7)).2.2] = vT 6 7 by kernel_rfl) ▸ tokens (tx 6 7) s
theorem p67 : KnE P (13, [.str (tx 6 7)], vP 6 7) := pureB_ok Pok (knTab_ok kn1_ok (KnOk.cons t67 .nil : KnOk P [(30, [.str (tx 6 7)], vT 6 7)])) (fuel := 20000) (v := vP 6 7) rfl (by kernel_rfl)
theorem x67 : KnE P (12, [q (vB 6 7) 0, q (vH 6 7) 0], .bool true) := pureB_ok Pok kn1_ok (fuel := 20000) (v := .bool true) rfl (by kernel_rfl)
theorem l67 : KnE P (14, [q (vP 6 7) 0], vL 6 7) := pureB_ok Pok (knTab_ok kn1_ok (KnOk.cons (kC 6 7) (.cons (kM 6 7) .nil) : KnOk P [(38, [q (vP 6 7) 0], vC 6 7), (39, [q (vP 6 7) 0], vM 6 7)])) (fuel := 20000) (v := vL 6 7) rfl (by kernel_rfl)
theorem s67 : KnE P (6, [q (vL 6 7) 0], vS 6 7) := pureB_ok Pok kn1_ok (fuel := 20000) (v := vS 6 7) rfl (by kernel_rfl)
theorem t68 : KnE P (30, [.str (tx 6 8)], vT 6 8) := fun s => (show LV.tup [encToks (tokensF (tx 6 8)).1, .int .i64 (tokensF (tx 6 8)).2.1, .int .i64 (tokensF (tx 6 8)).2.2] = vT 6 8 by kernel_rfl) ▸ tokens (tx 6 8) s
theorem p68 : KnE P (13, [.str (tx 6 8)], vP 6 8) := pureB_ok Pok (knTab_ok kn1_ok (KnOk.cons t68 .nil : KnOk P [(30, [.str (tx 6 8)], vT 6 8)])) (fuel := 20000) (v := vP 6 8) rfl (by kernel_rfl)
theorem x68 : KnE P (12, [q (vB 6 8) 0, q (vH 6 8) 0], .bool true) := pureB_ok Pok kn1_ok (fuel := 20000) (v := .bool true) rfl (by kernel_rfl)
theorem l68 : KnE P (14, [q (vP 6 8) 0], vL 6 8) := pureB_ok Pok (knTab_ok kn1_ok (KnOk.cons (kC 6 8) (.cons (kM 6 8) .nil) : KnOk P [(38, [q (vP 6 8) 0], vC 6 8), (39, [q (vP 6 8) 0], vM 6 8)])) (fuel := 20000) (v := vL 6 8) rfl (by kernel_rfl)
theorem s68 : KnE P (6, [q (vL 6 8) 0], vS 6 8) := pureB_ok Pok kn1_ok (fuel := 20000) (v := vS 6 8) rfl (by kernel_rfl)
theorem p6 : ∀ m, m < 9 → KnE P (13, [.str (tx 6 m)], vP 6 m) := fun m h => match m, h with
  | 0, _ => p60
  | 1, _ => p61
  | 2, _ => p62
  | 3, _ => p63
  | 4, _ => p64
  | 5, _ => p65
  | 6, _ => p66
  | 7, _ => p67
  | 8, _ => p68
  | k + 9, h => absurd h (by omega)
theorem x6 : ∀ m, m < 9 → KnE P (12, [q (vB 6 m) 0, q (vH 6 m) 0], .bool true) := fun m h => match m, h with
  | 0, _ => x60
  | 1, _ => x61
  | 2, _ => x62
  | 3, _ => x63
  | 4, _ => x64
  | 5, _ => x65
  | 6, _ => x66
  | 7, _ => x67
  | 8, _ => x68
  | k + 9, h => absurd h (by omega)
theorem l6 : ∀ m, m < 9 → KnE P (14, [q (vP 6 m) 0], vL 6 m) := fun m h => match m, h with
  | 0, _ => l60
  | 1, _ => l61
  | 2, _ => l62
  | 3, _ => l63
  | 4, _ => l64
  | 5, _ => l65
  | 6, _ => l66
  | 7, _ => l67
  | 8, _ => l68
  | k + 9, h => absurd h (by omega)
theorem s6 : ∀ m, m < 9 → KnE P (6, [q (vL 6 m) 0], vS 6 m) := fun m h => match m, h with
  | 0, _ => s60
  | 1, _ => s61
  | 2, _ => s62
  | 3, _ => s63
  | 4, _ => s64
  | 5, _ => s65
  | 6, _ => s66
  | 7, _ => s67
  | 8, _ => s68
  | k + 9, h => absurd h (by omega)
end Ts.apart
