/- StepApart: the numbers' choice. -/
import Derived.Test.YthjcagfiknkmkaaApT
namespace Ts.apart
open Go Den
set_option maxRecDepth 1000000
set_option linter.unusedSimpArgs false
set_option linter.unusedVariables false

theorem seqX {n0 : Nat} {x y : Code} {Q : Exit → Fr → LS → Prop} {A : Fr} {s : LS}
    (h : wpX P E n0 x (fun e A s => match e with | .normal => Held (WpS P n0 y Q A s) | e => Q e A s) A s) : WpS P n0 (.seq x y) Q A s := by
  intro c0 c a h0 hs hi
  refine wp_seq (wp_mono (wpX_sound Eok _ _ _ _ h c0 c a h0 hs hi) ?_)
  rintro e a' w' ⟨c', A', rfl, hi', hq⟩
  cases e
  case normal => exact hq.out c0 c' a' h0 rfl hi'
  all_goals exact ⟨c', A', rfl, hi', hq⟩

theorem walkPS {f : Nat} {fn : Func} {code : Code} {args : List LV} {v : LV} (hE : EnvOk P E) (hf : P.funcs[f]? = some fn) (hb : fn.body = some code)
    (hname : (fn.name == "runtime.NumGoroutine") = false) (hn : args.length ≤ fn.ntmps) (ha : ∀ u ∈ args, Refs 0 u) (hv : Refs 0 v)
    (h : WpS P 0 code (endZ E fn.results.toList (FinP v)) ⟨fn.ntmps, slots 0 args⟩ LS.empty) (s : LS) : Holds P f args s v s := by
  refine Holds.lift (Holds.of_wpZ hE hf hb hname hn (FinP v) ?_ h) ha hv s
  rintro c0 c u u' hs hr hx hres hu ⟨hz⟩
  have hR : ∀ id, c.R id → id < 0 := by
    have : c0.s.next = 0 := by rw [hs]; rfl
    rw [← this]; exact hres
  have hV := View.empty c.s (fun k => k)
  have hd : ∀ id, Dead LS.empty (fun k => k) id := fun id k o h => by simp [LS.empty] at h
  have e : (fun _ => True) = Dead LS.empty (fun k => k) := by funext id; exact propext ⟨fun _ => hd id, fun _ => trivial⟩
  rw [e] at hz
  exact ⟨fun k => c.ι k, hr.view hV hR, hx.view (by rw [hs]; exact Nat.le_refl _) hV, VR.frz hr hV hR hz hu⟩

noncomputable def hd (c : Code) : Code := match c with
  | .seq x _ => x
  | _ => .skip
noncomputable def b0 : Code := hd body
noncomputable def b1 : Code := hd (tail body)
noncomputable def b2 : Code := hd (tail (tail body))
noncomputable def b3 : Code := hd (tail (tail (tail body)))
theorem body_eq : Go.Proofs.Try.f4.body = some (.seq b0 (.seq b1 (.seq b2 (.seq b3 rest)))) := by kernel_rfl
def ints (zs : List Int) : LV := .lit (zs.map fun z => .int .i64 z) false
theorem ints_bare (zs : List Int) : (ints zs).bare = true := bares_map _ (fun _ => rfl) zs
theorem nine (z : Int) : ∃ n : Nat, n < 9 ∧ z % 9 = Int.ofNat n := ⟨(z % 9).toNat, by omega, by show z % 9 = (((z % 9).toNat : Nat) : Int); omega⟩

theorem law (hr : ∀ n, n < 9 → ∀ m, m < 9 → ∀ first, WpS P 0 rest (endZ E Go.Proofs.Try.f4.results.toList (FinP (.bool true))) ⟨122, aL first n m⟩ LS.empty) (zs : List Int) (first : Bool) (s : LS) :
    Holds P 4 [ints zs, .bool first] s (.bool true) s := by
  refine walkPS Eok Go.Proofs.Try.func4 body_eq rfl (by exact Nat.le_of_ble_eq_true rfl) (refs_all ?_) (LV.bare_refs _ rfl) ?_ s
  · simp only [LV.bares, ints_bare, LV.bare, Bool.and_self]
  unfold ints
  refine seqX ?_
  conv => whnf
  refine ⟨seqX ?_⟩
  conv => whnf
  refine ⟨seqX ?_⟩
  conv => whnf
  refine ⟨seqX ?_⟩
  conv => whnf
  cases hz : decide (((zs.map fun z => LV.int .i64 z).length : Int) > 1)
  · conv => whnf
    exact ⟨(hr 3 (by decide) 4 (by decide) first).view (fun k => k) (View.none _) ⟨⟨_, rfl, .int _ _⟩, ⟨_, rfl, .int _ _⟩, ⟨_, rfl, .bool _⟩, ⟨_, rfl, .bool _⟩, trivial⟩⟩
  · have hz := of_decide_eq_true hz
    rw [List.length_map] at hz
    conv => whnf
    refine ⟨by omega, .int .i64 (zs[0]'(by omega)), by simp, rfl, ?_⟩
    conv => whnf
    obtain ⟨n, hn, en⟩ := nine (zs[0]'(by omega))
    refine ⟨.int .i64 (Int.ofNat n), _, by rw [← en]; exact pick _ 9 (by decide) (by decide) _, ?_⟩
    conv => whnf
    refine ⟨by omega, .int .i64 (zs[1]'(by omega)), by simp, rfl, ?_⟩
    conv => whnf
    obtain ⟨m, hm, em⟩ := nine (zs[1]'(by omega))
    refine ⟨.int .i64 (Int.ofNat m), _, by rw [← em]; exact pick _ 9 (by decide) (by decide) _, ?_⟩
    conv => whnf
    exact ⟨(hr n hn m hm first).view (fun k => k) (View.none _) ⟨⟨_, rfl, .int _ _⟩, ⟨_, rfl, .int _ _⟩, ⟨_, rfl, .bool _⟩, ⟨_, rfl, .bool _⟩, trivial⟩⟩
end Ts.apart
