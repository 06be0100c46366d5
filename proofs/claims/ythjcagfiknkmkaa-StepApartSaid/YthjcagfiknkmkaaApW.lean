/- StepApart, walked. -/
import Derived.Test.YthjcagfiknkmkaaApA
namespace Ts
open Go Den
set_option maxRecDepth 100000
set_option linter.unusedSimpArgs false
set_option linter.unusedVariables false

theorem tmod_emod (n m : Int) (hm : 0 < m) : (n.tmod m < 0 → n.tmod m + m = n % m) ∧ (0 ≤ n.tmod m → n.tmod m = n % m) ∧ -m < n.tmod m ∧ n.tmod m < m := by
  have h1 : n.tmod m + m * n.tdiv m = n := Int.tmod_add_mul_tdiv n m
  have h2 : n % m = n.tmod m % m := by
    conv => lhs; rw [← h1]
    exact Int.add_mul_emod_self_left _ _ _
  have h3 : n.tmod m < m := Int.tmod_lt_of_pos n hm
  have h4 : -m < n.tmod m := by
    have := Int.tmod_lt_of_pos (-n) hm
    rw [Int.neg_tmod] at this
    omega
  refine ⟨fun h => ?_, fun h => ?_, h4, h3⟩
  · rw [h2, ← Int.add_emod_right, Int.emod_eq_of_lt (by omega) (by omega)]
  · rw [h2, Int.emod_eq_of_lt h h3]

theorem pick (n m : Int) (hm : 0 < m) (hb : m < 4611686018427387904) (s : LS) : Holds P 11 [.int .i64 n, .int .i64 m] s (.int .i64 (n % m)) s := by
  refine Holds.walk Eok Go.Proofs.Try.func11 rfl rfl (by exact Nat.le_of_ble_eq_true rfl) ?_
  conv => whnf
  refine ⟨by omega, ?_⟩
  conv => whnf
  obtain ⟨h1, h2, h3, h4⟩ := tmod_emod n m hm
  cases h : decide (n.tmod m < 0)
  · conv => whnf
    exact ⟨by rw [h2 (by simpa using h)], SubS.self _ _ _⟩
  · have h := of_decide_eq_true h
    conv => whnf
    exact ⟨by rw [← h1 h, wrap_id] <;> omega, SubS.self _ _ _⟩

namespace apart
theorem lower (n m : Nat) (hp : KnE P (13, [.str (tx n m)], vP n m)) (hl : KnE P (14, [q (vP n m) 0], vL n m)) (s : LS) :
    Holds P 5 [.str (tx n m)] s (q (vL n m) 0) s := by
  refine Holds.walkP Eok Go.Proofs.Try.func5 rfl rfl (by exact Nat.le_of_ble_eq_true rfl) (refs_all rfl) (LV.bare_refs _ rfl) ?_ s
  conv => whnf
  refine ⟨_, _, hp _, ?_⟩
  conv => whnf
  refine ⟨_, _, hl _, ?_⟩
  conv => whnf
  refine ⟨?_⟩
  exact Frz.same (LV.bare_refs (q (vL n m) 0) rfl)

end apart
end Ts
