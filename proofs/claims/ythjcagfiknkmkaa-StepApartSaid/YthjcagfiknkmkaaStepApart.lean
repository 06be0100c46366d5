/-
  'suturelaw15.StepApart' returns true, and its arguments (a slice of integers, a bool) read behind the call as they read before: the statement Rows.StepApartSaid. No condition.
-/
import Derived.Test.YthjcagfiknkmkaaRows
import Derived.WalkKit
import Derived.ProofKit
import Derived.OpenShut
import Derived.Test.YthjcagfiknkmkaaDend
import Derived.Test.YthjcagfiknkmkaaApJ
namespace Go.Proofs.Ythjcagfiknkmkaa.stepApart
open Go.ChangeShapes Go.WideShapes Go.ChangeAt Go.RowKit
set_option linter.unusedVariables false

theorem own : ownKnob Try.prog.godebug = none := by kernel_rfl

theorem walk (w : World) (zs : List Int) (first : Bool) (v : Value) (hv : Den.VR Try.prog (Den.bare w) (Den.intsL .i64 zs) v) : Calls Try.prog 4 #[v, .bool first] w fun e w' => e = .returned (.bool true) ∧ Below w.heap.size w w' :=
  Den.Holds.below (args := [Den.intsL .i64 zs, .bool first]) (b := true) (Ts.apart.all zs first Den.LS.empty) rfl (fun i u u' h h' => by
    match i with
    | 0 => simp at h h'; subst h; subst h'; exact hv
    | 1 => simp at h h'; subst h; subst h'; exact .bool _
    | i + 2 => simp at h)

theorem laid : laidOutB Try.prog = true := by kernel_rfl

set_option maxRecDepth 100000 in
theorem lifted (os : Os) (started : os.Started) (H : Type) (enc : TypeId × Value → H) :
    ReturnsInHanded {} Try.checked os 4 .any (Rows.stepApartSpec.pre6 enc Try.prog Try.f4 Rows.stepApartRow.domain false) (Rows.stepApartSpec.post enc Try.prog Try.f4 false true false false) := by
  refine returnsInHanded_of_change (C := Try.checked) own started (by kernel_rfl) Try.func4
    (ChangeSpec.witness6 (enc := enc) (C := Try.checked) false ⟨#[], #[.slice none 0 0, .bool false], []⟩ 8 (by kernel_rfl) (by kernel_rfl) (by kernel_rfl) (by kernel_rfl)) ?_
  intro W base args ds gs before hval0 hW hcnd _
  have hval : ∀ (j : Nat) t v, Try.f4.params[j]? = some t → args[j]? = some v → Value.okWide Try.prog W .any base t v := hval0
  have hW' := hW
  obtain ⟨p, q, hA0, hV, rfl, hfz, hnd⟩ := hW
  have hA : DataW.TrodAll enc Try.prog W 0 (fun _ => true) true Try.f4.params.toList args.toList ds p := hA0
  have hAk := hA
  rw [Try.params4] at hA hval
  obtain ⟨v0, v1, d0, d1, p0, p1, rfl, rfl, hp, h0, h1⟩ := trodAll_two hA
  obtain ⟨rfl, rfl⟩ := trodVars_none hV
  clear hA0 hval0
  simp only [List.append_nil] at hW'
  have fin : ∀ (W' : World), Below W.heap.size W W' → Rows.stepApartSpec.post enc Try.prog Try.f4 false true false false W #[v0, v1] (.bool true) W' := fun W' hg =>
    Den.post_of_below (pa := p) (pv := []) hW' (fun _ _ _ => (trodAll_cons_mk (shut_bool Try.underlying4 _) trodAll_mk0))
      (fun sp hs => Den.trodAll_stays laid (by rw [Try.params4]; decide +kernel) hAk (fun x hx => hg.same (by simpa using hW'.lt x hx)) (fun x hx => hs x hx)) (fun _ _ => rfl) (by simp)
      hg (ok_one (by kernel_rfl) rfl (okWide_bool_mk Try.underlying4 _))
  subst hp
  go_open 1 first
  go_open 0 values
  · refine (walk W (values.take values_len) first _ (Den.VR.intsL values_le values_all cell_values)).mono fun e W' ⟨he, hg⟩ => ?_
    subst he
    exact ⟨_, rfl, fin W' hg⟩
  · refine (walk W [] first _ (.lit0 none 0 false (by simp) (by simp))).mono fun e W' ⟨he, hg⟩ => ?_
    subst he
    exact ⟨_, rfl, fin W' hg⟩

theorem over : Rows.stepApartRow.holds Try.pinned (OpenSpec.ofChange Rows.stepApartSpec) :=
  OpenClaim.holds_of_wide 4 Try.f4 rfl rfl rfl rfl rfl rfl rfl ⟨rfl, rfl, rfl, rfl, rfl⟩ rfl rfl rfl rfl rfl (by kernel_rfl) Try.func4 (by kernel_rfl)
    (of_decide_eq_true (by kernel_rfl)) (by unfold Func.isWrapper; first | (rw [if_pos (by decide +kernel)]; kernel_rfl) | (rw [if_neg (by decide +kernel)]; exact ⟨rfl, rfl⟩))
    (fun os started H enc _ => lifted os started H enc)

theorem proved : Rows.StepApartSaid := over
#print axioms proved
end Go.Proofs.Ythjcagfiknkmkaa.stepApart
