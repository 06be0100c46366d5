/- What is known of functions by their contracts, for calls that are carried out. -/
import Derived.Test.YthjcagfiknkmkaaConC
namespace Ts
open Go Den
set_option maxRecDepth 100000
/-- A number, told out before one goes on. -/
def force {α : Type} (n : Nat) (k : Nat → α) : α := match n with
  | 0 => k 0
  | a + 1 => k (a + 1)
theorem force_eq {α : Type} (n : Nat) (k : Nat → α) : force n k = k n := by cases n <;> rfl
def kn1 (g : Nat) (args : List LV) : Option LV := match kn0 g args with
  | some v => some v
  | none => match args with
    | [] => none
    | a :: r => match a with
      | .str l => (match r with
        | [] => bif Nat.beq g 53 then some (.bool (keywordF l)) else bif Nat.beq g 31 then some (.int .i64 (declKindF l)) else none
        | b :: r' => match b with
          | .int k n => (match k, r' with
            | .i64, [] => bif Nat.beq g 33 then (bif Nat.ble l.length 100000 then force (placeF l n).1 (fun a => force (placeF l n).2 fun b => some (.cpx .f64 a b)) else none) else none
            | _, _ => none)
          | _ => none)
      | _ => none
theorem kn1_ok : ∀ g args v, kn1 g args = some v → ∀ s, Holds P g args s v s := by
  intro g args v h s
  unfold kn1 at h
  split at h
  · rename_i v' hk
    injection h with h; subst h
    exact kn0_ok _ _ _ hk s
  split at h
  · cases h
  split at h
  case h_2 => cases h
  split at h
  · cases h1 : Nat.beq g 53 with
    | true =>
      obtain rfl := Nat.eq_of_beq_eq_true h1
      simp only [h1, cond_true] at h
      injection h with h; subst h
      exact keyword _ s
    | false =>
      cases h2 : Nat.beq g 31 with
      | true =>
        obtain rfl := Nat.eq_of_beq_eq_true h2
        simp only [h1, h2, cond_true, cond_false] at h
        injection h with h; subst h
        exact declKind _ s
      | false => simp only [h1, h2, cond_false] at h; cases h
  split at h
  case h_2 => cases h
  split at h
  case h_2 => cases h
  cases h1 : Nat.beq g 33 with
  | true =>
    obtain rfl := Nat.eq_of_beq_eq_true h1
    rename_i l _ _ _ _ _ _
    cases h2 : Nat.ble l.length 100000 with
    | true =>
      simp only [h1, h2, cond_true, force_eq] at h
      injection h with h; subst h
      exact place _ _ (Nat.lt_of_le_of_lt (Nat.le_of_ble_eq_true h2) (by omega)) s
    | false => simp only [h1, h2, cond_true, cond_false] at h; cases h
  | false => simp only [h1, cond_false] at h; cases h
end Ts
