/- StepApart: what is behind the numbers' choice, carried out. -/
import Derived.Test.YthjcagfiknkmkaaApW
namespace Ts.apart
open Go Den
set_option maxRecDepth 1000000
set_option linter.unusedSimpArgs false
set_option linter.unusedVariables false

noncomputable def tail (c : Code) : Code := match c with
  | .seq _ x => x
  | _ => .skip
noncomputable def body : Code := match Go.Proofs.Try.f4.body with
  | some c => c
  | none => .skip
noncomputable def rest : Code := tail (tail (tail (tail body)))
def bT (first : Bool) (n m : Nat) : Ft := ((((Tr.e : Ft).put 16 1 (some (.bool first))).put 16 4 (some (.bool false))).put 16 5 (some (.int .i64 (Int.ofNat n)))).put 16 6 (some (.int .i64 (Int.ofNat m)))
def aL (first : Bool) (n m : Nat) : List (Nat × LV) := [(6, .int .i64 (Int.ofNat m)), (5, .int .i64 (Int.ofNat n)), (4, .bool false), (1, .bool first)]
theorem fr (first : Bool) (n m : Nat) : FrEq ⟨122, aL first n m⟩ (bT first n m) := by
  have h0 : FrEq ⟨122, []⟩ (.e : Ft) := slotsT_fr (vs := []) 122 (by simp)
  have h1 := (putB_ok (n := 122) (d := some 1) (v := .bool first) h0 rfl rfl).1
  have h2 := (putB_ok (n := 122) (d := some 4) (v := .bool false) h1 rfl rfl).1
  have h3 := (putB_ok (n := 122) (d := some 5) (v := .int .i64 (Int.ofNat n)) h2 rfl rfl).1
  exact (putB_ok (n := 122) (d := some 6) (v := .int .i64 (Int.ofNat m)) h3 rfl rfl).1

def tab (n m : Nat) : List (Nat × List LV × LV) :=
  [(5, [.str (tx n m)], q (vL n m) 0), (6, [q (vL n m) 0], vS n m),
   (8, [q (vL n m) 0, vS n m, .int .i64 0], vA n m), (8, [q (vL n m) 0, q (vA n m) 0, .int .i64 1], vB n m),
   (8, [q (vL n m) 0, vS n m, .int .i64 1], vD n m), (8, [q (vL n m) 0, q (vD n m) 0, .int .i64 0], vH n m),
   (12, [q (vB n m) 0, q (vH n m) 0], .bool true), (12, [q (vA n m) 0, q (vD n m) 0], .bool false), (9, [], .bool true)]
noncomputable def restB (first : Bool) (n m : Nat) : Bool := match taskB E P dt (knTab (tab n m) kn1) 20000 4 122 (.code rest) (bT first n m) Hp.empty with
  | some r => (match r.e with
    | .ret => (match r.A.get 4 with
      | some v => (match v with
        | .bool b => b
        | _ => false)
      | none => false)
    | _ => false)
  | none => false
theorem rest_okc : okCode E dt 4 rest = true := by kernel_rfl
theorem rest_ok {first : Bool} {n m : Nat} (ht : KnOk P (tab n m)) (h : restB first n m = true) :
    WpS P 0 rest (endZ E Go.Proofs.Try.f4.results.toList (FinP (.bool true))) ⟨122, aL first n m⟩ LS.empty := by
  unfold restB at h
  split at h
  case h_2 => cases h
  rename_i r hr
  split at h
  case h_2 => cases h
  rename_i he
  split at h
  case h_2 => cases h
  rename_i v hv
  split at h
  case h_2 => cases h
  rename_i b
  subst h
  refine (taskB_ok Pok (knTab_ok kn1_ok ht) 20000).code _ 122 rest _ (bT first n m) Hp.empty r 0 _ hr rest_okc (fr first n m) rfl ?_
  intro A' hA' hn'
  rw [he]
  show oneOf (A'.get 4) _
  rw [hA' 4, hv]
  exact ⟨.bool true⟩
end Ts.apart
