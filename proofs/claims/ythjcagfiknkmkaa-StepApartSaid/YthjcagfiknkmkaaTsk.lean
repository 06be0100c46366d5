/- The small seat: what is known of its functions. -/
import Derived.Test.YthjcagfiknkmkaaTs
import Derived.Test.YthjcagfiknkmkaaDenc
set_option maxRecDepth 100000
namespace Ts
open Go Den
def noKn : Nat → List LV → Option LV := fun _ _ => none
theorem noKn_ok : ∀ g args v, noKn g args = some v → ∀ s, Holds P g args s v s := fun _ _ _ h => by cases h
theorem clone_nil : ∀ s, Holds P 64 [.nils] s .nils s := pureB_ok Pok noKn_ok (fuel := 50) rfl (by kernel_rfl)
theorem clone_dead : Holds P 64 [.hsl 0 0 0 (some 0)] ⟨fun _ => none, 1⟩ (.lit [] true) ⟨fun _ => none, 1⟩ :=
  callB_ok Pok noKn_ok (fuel := 50) (H := ⟨.e, 1⟩) (r := ⟨.lit [] true, ⟨.e, 1⟩⟩) (by kernel_rfl)
theorem clone_empty : ∀ s, Holds P 64 [.lit [] true] s (.lit [] true) s := Holds.empty clone_nil clone_dead
/-- An empty slice is copied. -/
def kn0 : Nat → List LV → Option LV := fun g args => bif Nat.beq g 64 then (match args with
  | [x] => match x with
    | .lit l f => match l, f with
      | [], true => some (.lit [] true)
      | _, _ => none
    | _ => none
  | _ => none) else none
theorem kn0_ok : ∀ g args v, kn0 g args = some v → ∀ s, Holds P g args s v s := by
  intro g args v h
  unfold kn0 at h
  cases hb : Nat.beq g 64 with
  | false => rw [hb] at h; cases h
  | true =>
    rw [hb] at h
    obtain rfl := Nat.eq_of_beq_eq_true hb
    simp only [cond_true] at h
    split at h
    case h_2 => cases h
    split at h
    case h_2 => cases h
    split at h
    case h_2 => cases h
    injection h with h; subst h
    exact clone_empty
end Ts
