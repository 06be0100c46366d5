/- StepApart's texts, all: printed by wip/tools/apart.py. -/
import Derived.Test.YthjcagfiknkmkaaApCa
import Derived.Test.YthjcagfiknkmkaaApCb
import Derived.Test.YthjcagfiknkmkaaApCc
import Derived.Test.YthjcagfiknkmkaaApCd
import Derived.Test.YthjcagfiknkmkaaApCe
import Derived.Test.YthjcagfiknkmkaaApCf
import Derived.Test.YthjcagfiknkmkaaApCg
import Derived.Test.YthjcagfiknkmkaaApCh
import Derived.Test.YthjcagfiknkmkaaApCi
import Derived.Test.YthjcagfiknkmkaaApB
set_option maxRecDepth 1000000
namespace Ts.apart
open Go Den
theorem pAll : ∀ n, n < 9 → ∀ m, m < 9 → KnE P (13, [.str (tx n m)], vP n m) := fun n h => match n, h with
  | 0, _ => p0
  | 1, _ => p1
  | 2, _ => p2
  | 3, _ => p3
  | 4, _ => p4
  | 5, _ => p5
  | 6, _ => p6
  | 7, _ => p7
  | 8, _ => p8
  | k + 9, h => absurd h (by omega)
theorem xAll : ∀ n, n < 9 → ∀ m, m < 9 → KnE P (12, [q (vB n m) 0, q (vH n m) 0], .bool true) := fun n h => match n, h with
  | 0, _ => x0
  | 1, _ => x1
  | 2, _ => x2
  | 3, _ => x3
  | 4, _ => x4
  | 5, _ => x5
  | 6, _ => x6
  | 7, _ => x7
  | 8, _ => x8
  | k + 9, h => absurd h (by omega)
theorem lAll : ∀ n, n < 9 → ∀ m, m < 9 → KnE P (14, [q (vP n m) 0], vL n m) := fun n h => match n, h with
  | 0, _ => l0
  | 1, _ => l1
  | 2, _ => l2
  | 3, _ => l3
  | 4, _ => l4
  | 5, _ => l5
  | 6, _ => l6
  | 7, _ => l7
  | 8, _ => l8
  | k + 9, h => absurd h (by omega)
theorem sAll : ∀ n, n < 9 → ∀ m, m < 9 → KnE P (6, [q (vL n m) 0], vS n m) := fun n h => match n, h with
  | 0, _ => s0
  | 1, _ => s1
  | 2, _ => s2
  | 3, _ => s3
  | 4, _ => s4
  | 5, _ => s5
  | 6, _ => s6
  | 7, _ => s7
  | 8, _ => s8
  | k + 9, h => absurd h (by omega)
end Ts.apart
