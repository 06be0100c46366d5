/- StepApart's texts: printed by wip/tools/apart.py. -/
import Derived.Test.YthjcagfiknkmkaaApA
set_option maxRecDepth 1000000
namespace Ts.apart
open Go Den
theorem t80 : KnE P (30, [.str (tx 8 0)], vT 8 0) := fun s => (show LV.tup [encToks (tokensF (tx 8 0)).1, .int .i64 (tokensF (tx 8 0)).2.1, .int .i64 (tokensF (tx 8 0)).2.2] = vT 8 0 by kernel_rfl) ▸ tokens (tx 8 0) s
theorem p80 : KnE P (13, [.str (tx 8 0)], vP 8 0) := pureB_ok Pok (knTab_ok kn1_ok (KnOk.cons t80 .nil : KnOk P [(30, [.str (tx 8 0)], vT 8 0)])) (fuel := 20000) (v := vP 8 0) rfl (by kernel_rfl)
theorem x80 : KnE P (12, [q (vB 8 0) 0, q (vH 8 0) 0], .bool true) := pureB_ok Pok kn1_ok (fuel := 20000) (v := .bool true) rfl (by kernel_rfl)
theorem l80 : KnE P (14, [q (vP 8 0) 0], vL 8 0) := pureB_ok Pok (knTab_ok kn1_ok (KnOk.cons (kC 8 0) (.cons (kM 8 0) .nil) : KnOk P [(38, [q (vP 8 0) 0], vC 8 0), (39, [q (vP 8 0) 0], vM 8 0)])) (fuel := 20000) (v := vL 8 0) rfl (by kernel_rfl)
theorem s80 : KnE P (6, [q (vL 8 0) 0], vS 8 0) := pureB_ok Pok kn1_ok (fuel := 20000) (v := vS 8 0) rfl (by kernel_rfl)
theorem t81 : KnE P (30, [.str (tx 8 1)], vT 8 1) := fun s => (show LV.tup [encToks (tokensF (tx 8 1)).1, .int .i64 (tokensF (tx 8 1)).2.1, .int .i64 (tokensF (tx 8 1)).2.2] = vT 8 1 by kernel_rfl) ▸ tokens (tx 8 1) s
theorem p81 : KnE P (13, [.str (tx 8 1)], vP 8 1) := pureB_ok Pok (knTab_ok kn1_ok (KnOk.cons t81 .nil : KnOk P [(30, [.str (tx 8 1)], vT 8 1)])) (fuel := 20000) (v := vP 8 1) rfl (by kernel_rfl)
theorem x81 : KnE P (12, [q (vB 8 1) 0, q (vH 8 1) 0], .bool true) := pureB_ok Pok kn1_ok (fuel := 20000) (v := .bool true) rfl (by kernel_rfl)
theorem l81 : KnE P (14, [q (vP 8 1) 0], vL 8 1) := pureB_ok Pok (knTab_ok kn1_ok (KnOk.cons (kC 8 1) (.cons (kM 8 1) .nil) : KnOk P [(38, [q (vP 8 1) 0], vC 8 1), (39, [q (vP 8 1) 0], vM 8 1)])) (fuel := 20000) (v := vL 8 1) rfl (by kernel_rfl)
theorem s81 : KnE P (6, [q (vL 8 1) 0], vS 8 1) := pureB_ok Pok kn1_ok (fuel := 20000) (v := vS 8 1) rfl (by kernel_rfl)
theorem t82 : KnE P (30, [.str (tx 8 2)], vT 8 2) := fun s => (show LV.tup [encToks (tokensF (tx 8 2)).1, .int .i64 (tokensF (tx 8 2)).2.1, .int .i64 (tokensF (tx 8 2)).2.2] = vT 8 2 by kernel_rfl) ▸ tokens (tx 8 2) s
theorem p82 : KnE P (13, [.str (tx 8 2)], vP 8 2) := pureB_ok Pok (knTab_ok kn1_ok (KnOk.cons t82 .nil : KnOk P [(30, [.str (tx 8 2)], vT 8 2)])) (fuel := 20000) (v := vP 8 2) rfl (by kernel_rfl)
theorem x82 : KnE P (12, [q (vB 8 2) 0, q (vH 8 2) 0], .bool true) := pureB_ok Pok kn1_ok (fuel := 20000) (v := .bool true) rfl (by kernel_rfl)
theorem l82 : KnE P (14, [q (vP 8 2) 0], vL 8 2) := pureB_ok Pok (knTab_ok kn1_ok (KnOk.cons (kC 8 2) (.cons (kM 8 2) .nil) : KnOk P [(38, [q (vP 8 2) 0], vC 8 2), (39, [q (vP 8 2) 0], vM 8 2)])) (fuel := 20000) (v := vL 8 2) rfl (by kernel_rfl)
theorem s82 : KnE P (6, [q (vL 8 2) 0], vS 8 2) := pureB_ok Pok kn1_ok (fuel := 20000) (v := vS 8 2) rfl (by kernel_rfl)
theorem t83 : KnE P (30, [.str (tx 8 3)], vT 8 3) := fun s => (show LV.tup [encToks (tokensF (tx 8 3)).1, .int .i64 (tokensF (tx 8 3)).2.1, .int .i64 (tokensF (tx 8 3)).2.2] = vT 8 3 by kernel_rfl) ▸ tokens (tx 8 3) s
theorem p83 : KnE P (13, [.str (tx 8 3)], vP 8 3) := pureB_ok Pok (knTab_ok kn1_ok (KnOk.cons t83 .nil : KnOk P [(30, [.str (tx 8 3)], vT 8 3)])) (fuel := 20000) (v := vP 8 3) rfl (by kernel_rfl)
theorem x83 : KnE P (12, [q (vB 8 3) 0, q (vH 8 3) 0], .bool true) := pureB_ok Pok kn1_ok (fuel := 20000) (v := .bool true) rfl (by kernel_rfl)
theorem l83 : KnE P (14, [q (vP 8 3) 0], vL 8 3) := pureB_ok Pok (knTab_ok kn1_ok (KnOk.cons (kC 8 3) (.cons (kM 8 3) .nil) : KnOk P [(38, [q (vP 8 3) 0], vC 8 3), (39, [q (vP 8 3) 0], vM 8 3)])) (fuel := 20000) (v := vL 8 3) rfl (by kernel_rfl)
theorem s83 : KnE P (6, [q (vL 8 3) 0], vS 8 3) := pureB_ok Pok kn1_ok (fuel := 20000) (v := vS 8 3) rfl (by kernel_rfl)
theorem t84 : KnE P (30, [.str (tx 8 4)], vT 8 4) := fun s => (show LV.tup [encToks (tokensF (tx 8 4)).1, .int .i64 (tokensF (tx 8 4)).2.1, .int .i64 (tokensF (tx 8 4)).2.2] = vT 8 4 by kernel_rfl) ▸ tokens (tx 8 4) s
theorem p84 : KnE P (13, [.str (tx 8 4)], vP 8 4) := pureB_ok Pok (knTab_ok kn1_ok (KnOk.cons t84 .nil : KnOk P [(30, [.str (tx 8 4)], vT 8 4)])) (fuel := 20000) (v := vP 8 4) rfl (by kernel_rfl)
theorem x84 : KnE P (12, [q (vB 8 4) 0, q (vH 8 4) 0], .bool true) := pureB_ok Pok kn1_ok (fuel := 20000) (v := .bool true) rfl (by kernel_rfl)
theorem l84 : KnE P (14, [q (vP 8 4) 0], vL 8 4) := pureB_ok Pok (knTab_ok kn1_ok (KnOk.cons (kC 8 4) (.cons (kM 8 4) .nil) : KnOk P [(38, [q (vP 8 4) 0], vC 8 4), (39, [q (vP 8 4) 0], vM 8 4)])) (fuel := 20000) (v := vL 8 4) rfl (by kernel_rfl)
theorem s84 : KnE P (6, [q (vL 8 4) 0], vS 8 4) := pureB_ok Pok kn1_ok (fuel := 20000) (v := vS 8 4) rfl (by kernel_rfl)
theorem t85 : KnE P (30, [.str (tx 8 5)], vT 8 5) := fun s => (show LV.tup [encToks (tokensF (tx 8 5)).1, .int .i64 (tokensF (tx 8 5)).2.1, .int .i64 (tokensF (tx 8 5)).2.2] = vT 8 5 by kernel_rfl) ▸ tokens (tx 8 5) s
theorem p85 : KnE P (13, [.str (tx 8 5)], vP 8 5) := pureB_ok Pok (knTab_ok kn1_ok (KnOk.cons t85 .nil : KnOk P [(30, [.str (tx 8 5)], vT 8 5)])) (fuel := 20000) (v := vP 8 5) rfl (by kernel_rfl)
theorem x85 : KnE P (12, [q (vB 8 5) 0, q (vH 8 5) 0], .bool true) := pureB_ok Pok kn1_ok (fuel := 20000) (v := .bool true) rfl (by kernel_rfl)
theorem l85 : KnE P (14, [q (vP 8 5) 0], vL 8 5) := pureB_ok Pok (knTab_ok kn1_ok (KnOk.cons (kC 8 5) (.cons (kM 8 5) .nil) : KnOk P [(38, [q (vP 8 5) 0], vC 8 5), (39, [q (vP 8 5) 0], vM 8 5)])) (fuel := 20000) (v := vL 8 5) rfl (by kernel_rfl)
theorem s85 : KnE P (6, [q (vL 8 5) 0], vS 8 5) := pureB_ok Pok kn1_ok (fuel := 20000) (v := vS 8 5) rfl (by kernel_rfl)
theorem t86 : KnE P (30, [.str (tx 8 6)], vT 8 6) := fun s => (show LV.tup [encToks (tokensF (tx 8 6)).1, .int .i64 (tokensF (tx 8 6)).2.1, .int .i64 (tokensF (tx 8 6)).2.2] = vT 8 6 by kernel_rfl) ▸ tokens (tx 8 6) s
theorem p86 : KnE P (13, [.str (tx 8 6)], vP 8 6) := pureB_ok Pok (knTab_ok kn1_ok (KnOk.cons t86 .nil : KnOk P [(30, [.str (tx 8 6)], vT 8 6)])) (fuel := 20000) (v := vP 8 6) rfl (by kernel_rfl)
theorem x86 : KnE P (12, [q (vB 8 6) 0, q (vH 8 6) 0], .bool true) := pureB_ok Pok kn1_ok (fuel := 20000) (v := .bool true) rfl (by kernel_rfl)
theorem l86 : KnE P (14, [q (vP 8 6) 0], vL 8 6) := pureB_ok Pok (knTab_ok kn1_ok (KnOk.cons (kC 8 6) (.cons (kM 8 6) .nil) : KnOk P [(38, [q (vP 8 6) 0], vC 8 6), (39, [q (vP 8 6) 0], vM 8 6)])) (fuel := 20000) (v := vL 8 6) rfl (by kernel_rfl)
theorem s86 : KnE P (6, [q (vL 8 6) 0], vS 8 6) := pureB_ok Pok kn1_ok (fuel := 20000) (v := vS 8 6) rfl (by kernel_rfl)
theorem t87 : KnE P (30, [.str (tx 8 7)], vT 8 7) := fun s => (show LV.tup [encToks (tokensF (tx 8 7)).1, .int .i64 (tokensF (tx 8 7)).2.1, .int .i64 (tokensF (tx 8 7)).2.2] = vT 8 7 by kernel_rfl) ▸ tokens (tx 8 7) s
theorem p87 : KnE P (13, [.str (tx 8 7)], vP 8 7) := pureB_ok Pok (knTab_ok kn1_ok (KnOk.cons t87 .nil : KnOk P [(30, [.str (tx 8 7)], vT 8 7)])) (fuel := 20000) (v := vP 8 7) rfl (by kernel_rfl)
theorem x87 : KnE P (12, [q (vB 8 7) 0, q (vH 8 7) 0], .bool true) := pureB_ok Pok kn1_ok (fuel := 20000) (v := .bool true) rfl (by kernel_rfl)
theorem l87 : KnE P (14, [q (vP 8 7) 0], vL 8 7) := pureB_ok Pok (knTab_ok kn1_ok (KnOk.cons (kC 8 7) (.cons (kM 8 7) .nil) : KnOk P [(38, [q (vP 8 7) 0], vC 8 7), (39, [q (vP 8 7) 0], vM 8 7)])) (fuel := 20000) (v := vL 8 7) rfl (by kernel_rfl)
theorem s87 : KnE P (6, [q (vL 8 7) 0], vS 8 7) := pureB_ok Pok kn1_ok (fuel := 20000) (v := vS 8 7) rfl (by kernel_rfl)
theorem t88 : KnE P (30, [.str (tx 8 8)], vT 8 8) := fun s => (show LV.tup [encToks (tokensF (tx 8 8)).1, .int .i64 (tokensF (tx 8 8)).2.1, .int .i64 (tokensF (tx 8 8)).2.2] = vT 8 8 by kernel_rfl) ▸ tokens (tx 8 8) s
theorem p88 : KnE P (13, [.str (tx 8 8)], vP 8 8) := pureB_ok Pok (knTab_ok kn1_ok (KnOk.cons t88 .nil : KnOk P [(30, [.str (tx 8 8)], vT 8 8)])) (fuel := 20000) (v := vP 8 8) rfl (by kernel_rfl)
theorem x88 : KnE P (12, [q (vB 8 8) 0, q (vH 8 8) 0], .bool true) := pureB_ok Pok kn1_ok (fuel := 20000) (v := .bool true) rfl (by kernel_rfl)
theorem l88 : KnE P (14, [q (vP 8 8) 0], vL 8 8) := pureB_ok Pok (knTab_ok kn1_ok (KnOk.cons (kC 8 8) (.cons (kM 8 8) .nil) : KnOk P [(38, [q (vP 8 8) 0], vC 8 8), (39, [q (vP 8 8) 0], vM 8 8)])) (fuel := 20000) (v := vL 8 8) rfl (by kernel_rfl)
theorem s88 : KnE P (6, [q (vL 8 8) 0], vS 8 8) := pureB_ok Pok kn1_ok (fuel := 20000) (v := vS 8 8) rfl (by kernel_rfl)
theorem p8 : ∀ m, m < 9 → KnE P (13, [.str (tx 8 m)], vP 8 m) := fun m h => match m, h with
  | 0, _ => p80
  | 1, _ => p81
  | 2, _ => p82
  | 3, _ => p83
  | 4, _ => p84
  | 5, _ => p85
  | 6, _ => p86
  | 7, _ => p87
  | 8, _ => p88
  | k + 9, h => absurd h (by omega)
theorem x8 : ∀ m, m < 9 → KnE P (12, [q (vB 8 m) 0, q (vH 8 m) 0], .bool true) := fun m h => match m, h with
  | 0, _ => x80
  | 1, _ => x81
  | 2, _ => x82
  | 3, _ => x83
  | 4, _ => x84
  | 5, _ => x85
  | 6, _ => x86
  | 7, _ => x87
  | 8, _ => x88
  | k + 9, h => absurd h (by omega)
theorem l8 : ∀ m, m < 9 → KnE P (14, [q (vP 8 m) 0], vL 8 m) := fun m h => match m, h with
  | 0, _ => l80
  | 1, _ => l81
  | 2, _ => l82
  | 3, _ => l83
  | 4, _ => l84
  | 5, _ => l85
  | 6, _ => l86
  | 7, _ => l87
  | 8, _ => l88
  | k + 9, h => absurd h (by omega)
theorem s8 : ∀ m, m < 9 → KnE P (6, [q (vL 8 m) 0], vS 8 m) := fun m h => match m, h with
  | 0, _ => s80
  | 1, _ => s81
  | 2, _ => s82
  | 3, _ => s83
  | 4, _ => s84
  | 5, _ => s85
  | 6, _ => s86
  | 7, _ => s87
  | 8, _ => s88
  | k + 9, h => absurd h (by omega)
end Ts.apart
