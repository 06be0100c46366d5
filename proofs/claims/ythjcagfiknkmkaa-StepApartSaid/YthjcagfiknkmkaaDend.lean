/- The layer 'Den': logical values and heaps told of the model's; what an operation, a piece of code, a call does to them; the layer carried out. No condition. -/
import Derived.Test.YthjcagfiknkmkaaDenc
import Derived.OpenShut
import Derived.WideKeyArgs
import Derived.Below
set_option linter.unusedSimpArgs false
set_option linter.unusedVariables false
/- Den, part 40: walking: the weakest precondition in a form that stops where a proof is asked. -/
set_option linter.unusedSimpArgs false
set_option linter.unusedVariables false
namespace Den
open Go

/-- A statement that is not looked into. -/
structure Held (p : Prop) : Prop where
  of ::
  out : p

def wpX (P : Program) (E : Env) (n0 : Nat) (code : Code) (Q : Exit → Fr → LS → Prop) (A : Fr) (s : LS) : Prop := match code with
  | .skip => Q .normal A s
  | .label _ => Q .normal A s
  | .ret => Q .ret A s
  | .exit id => Q (.exit id) A s
  | .goto l => Q (.goto l) A s
  | .region id ops draw => match draw with
    | false => runL E ops.toList 0 ops.toList A s fun A s => Q .normal A s
    | true => Held (WpS P n0 (.region id ops true) Q A s)
  | .seq x y => wpX P E n0 x (fun e A s => match e with
    | .normal => wpX P E n0 y Q A s
    | .exit i => Q (.exit i) A s
    | .goto l => Q (.goto l) A s
    | .ret => Q .ret A s
    | _ => False) A s
  | .cond x y z => oneOf (ev A x) fun v => match v with
    | .bool b => match b with
      | true => wpX P E n0 y Q A s
      | false => wpX P E n0 z Q A s
    | _ => False
  | .block id x => wpX P E n0 x (fun e A s => match e with
    | .normal => Q .normal A s
    | .exit i => match Nat.beq i id with
      | true => Q .normal A s
      | false => Q (.exit i) A s
    | .goto l => Q (.goto l) A s
    | .ret => Q .ret A s
    | _ => False) A s
  | .loop x => Held (WpR P n0 x Q A s)
  | .scope x => Held (WpIn P n0 x x Q A s)
  | _ => False

section
variable {P : Program} {E : Env}

theorem wpX_sound (hE : EnvOk P E) {n0 : Nat} : ∀ (code : Code) (Q : Exit → Fr → LS → Prop) (A : Fr) (s : LS), wpX P E n0 code Q A s → WpS P n0 code Q A s := by
  intro code
  induction code with
  | skip => intro Q A s h; exact wpL_sound hE .skip Q A s h
  | label l => intro Q A s h; exact wpL_sound hE (.label l) Q A s h
  | ret => intro Q A s h; exact wpL_sound hE .ret Q A s h
  | exit id => intro Q A s h; exact wpL_sound hE (.exit id) Q A s h
  | goto l => intro Q A s h; exact wpL_sound hE (.goto l) Q A s h
  | region id ops draw =>
    intro Q A s h
    cases draw with
    | false => exact wpL_sound hE (.region id ops false) Q A s h
    | true => exact h.out
  | seq x y ihx ihy =>
    intro Q A s h c0 c a h0 hs hi
    refine wp_seq (wp_mono (ihx _ A s h c0 c a h0 hs hi) ?_)
    rintro e a' w' ⟨c', A', rfl, hi', hq⟩
    cases e with
    | normal => exact ihy Q A' c'.s hq c0 c' a' h0 rfl hi'
    | exit id => exact ⟨c', A', rfl, hi', hq⟩
    | goto l => exact ⟨c', A', rfl, hi', hq⟩
    | ret => exact ⟨c', A', rfl, hi', hq⟩
    | panic ch => exact hq.elim
    | outgrown => exact hq.elim
  | cond x y z ihy ihz =>
    intro Q A s h c0 c a h0 hs hi
    simp only [wpX] at h
    obtain ⟨v, hv, h⟩ := oneOf_elim h
    have hvv := ev_sound hi.ar hv
    split at h
    case h_2 => exact h.elim
    rename_i b
    generalize hb : a.eval x = b' at hvv
    cases hvv
    refine wp_cond hb ?_
    cases b with
    | true => exact ihy Q A s h c0 c a h0 hs hi
    | false => exact ihz Q A s h c0 c a h0 hs hi
  | block id x ih =>
    intro Q A s h c0 c a h0 hs hi
    refine wp_block (wp_mono (ih _ A s h c0 c a h0 hs hi) ?_)
    rintro e a' w' ⟨c', A', rfl, hi', hq⟩
    cases e with
    | normal => exact ⟨c', A', rfl, hi', hq⟩
    | exit i =>
      simp only at hq
      simp only [Exit.inBlock]
      split at hq
      · rename_i hb
        rw [if_pos (Nat.eq_of_beq_eq_true hb)]
        exact ⟨c', A', rfl, hi', hq⟩
      · rename_i hb
        rw [if_neg (fun e => by rw [e] at hb; simp at hb)]
        exact ⟨c', A', rfl, hi', hq⟩
    | goto l => exact ⟨c', A', rfl, hi', hq⟩
    | ret => exact ⟨c', A', rfl, hi', hq⟩
    | panic ch => exact hq.elim
    | outgrown => exact hq.elim
  | loop x ih => intro Q A s h; exact WpS.of_round h.out
  | rangeFunc f ps x y ihx ihy => intro Q A s h; exact h.elim
  | scope x ih => intro Q A s h; exact WpS.of_in h.out
  | refuse w => intro Q A s h; exact h.elim

/-- The end of a function's body, told by what is asked of the heap and the result. -/
structure Fin (n0 : Nat) (v : LV) (s2 : LS) (s' : LS) (u : LV) : Prop where
  of ::
  eq : u = v
  sub : SubS n0 s' s2 [v]

theorem Holds.walk {f : Nat} {fn : Func} {code : Code} {args : List LV} {s s2 : LS} {v : LV} (hE : EnvOk P E) (hf : P.funcs[f]? = some fn) (hb : fn.body = some code)
    (hname : (fn.name == "runtime.NumGoroutine") = false) (hn : args.length ≤ fn.ntmps)
    (h : wpX P E s.next code (endZ E fn.results.toList (Fin s.next v s2)) ⟨fn.ntmps, slots 0 args⟩ s) : Holds P f args s v s2 := by
  refine Holds.of_wpZ hE hf hb hname hn (Fin s.next v s2) ?_ (wpX_sound hE _ _ _ _ h)
  rintro c0 c u u' hs hr hx hres hu ⟨rfl, hsub⟩
  obtain ⟨h1, h2⟩ := hsub.rel hr (by rw [← hs]; exact hres)
  exact ⟨c.ι, h1, hsub.ext hx (by rw [hs]; exact Nat.le_refl _), h2 u (by simp) u' hu⟩

/-- The same, the heap and the result seen otherwise. -/
structure FinV (n0 : Nat) (v : LV) (s2 : LS) (s' : LS) (u : LV) : Prop where
  of ::
  ex : ∃ ρ, View n0 s' s2 ρ ∧ Frz s' s2.next ρ (Dead s2 ρ) u v

theorem Holds.walkV {f : Nat} {fn : Func} {code : Code} {args : List LV} {s s2 : LS} {v : LV} (hE : EnvOk P E) (hf : P.funcs[f]? = some fn) (hb : fn.body = some code)
    (hname : (fn.name == "runtime.NumGoroutine") = false) (hn : args.length ≤ fn.ntmps)
    (h : wpX P E s.next code (endZ E fn.results.toList (FinV s.next v s2)) ⟨fn.ntmps, slots 0 args⟩ s) : Holds P f args s v s2 := by
  refine Holds.of_wpZ hE hf hb hname hn (FinV s.next v s2) ?_ (wpX_sound hE _ _ _ _ h)
  rintro c0 c u u' hs hr hx hres hu ⟨ρ, hv, hz⟩
  have hR : ∀ id, c.R id → id < s.next := by rw [← hs]; exact hres
  exact ⟨fun k => c.ι (ρ k), hr.view hv hR, hx.view (by rw [hs]; exact Nat.le_refl _) hv, VR.frz hr hv hR hz hu⟩

theorem SubS.self (n0 : Nat) (s : LS) (vs : List LV) : SubS n0 s s vs := ⟨fun _ _ h => h, .inl rfl⟩

/-! ### Loops -/
variable {n0 : Nat} {Q : Exit → Fr → LS → Prop} {A : Fr} {s : LS}

def afterX (X : Fr → LS → Prop) (Q : Exit → Fr → LS → Prop) (e : Exit) (A : Fr) (s : LS) : Prop := match e with
  | .normal => Held (X A s)
  | .exit i => Q (.exit i) A s
  | .goto l => Q (.goto l) A s
  | .ret => Q .ret A s
  | _ => False

theorem WpR.less {x : Code} {l : List (Nat × LV)} (h : WpR P n0 x Q ⟨A.n, l⟩ s) (hf : frSub A l) : WpR P n0 x Q A s := by
  intro c0 c a h0 hs hi
  subst hs
  exact h c0 ⟨c.X, c.R, c.ι, c.s, c.w⟩ a h0 rfl (hi.sub h0 hf (SubS.self _ _ _))

theorem WpR.next {x : Code} {l : List (Nat × LV)} (h : WpR P n0 x Q ⟨A.n, l⟩ s) (hf : frSub A l) : Held (WpR P n0 x Q A s) := ⟨h.less hf⟩

/-- A loop: what holds at the head of each round is told by a parameter that gets less. -/
theorem WpR.rule (hE : EnvOk P E) {x : Code} {α : Type} (F : α → List (Nat × LV)) (S : α → LS) (μ : α → Nat) (y0 : α)
    (h : ∀ y, (∀ z, μ z < μ y → WpR P n0 x Q ⟨A.n, F z⟩ (S z)) → wpX P E n0 x (afterX (WpR P n0 x Q) Q) ⟨A.n, F y⟩ (S y))
    (h0 : frSub A (F y0)) (hs : S y0 = s) : Held (WpR P n0 x Q A s) := by
  have key : ∀ y, WpR P n0 x Q ⟨A.n, F y⟩ (S y) := by
    intro y
    generalize hm : μ y = m
    induction m using Nat.strongRecOn generalizing y with
    | _ m ih =>
      refine WpR.step ((wpX_sound hE _ _ _ _ (h y fun z hz => ih (μ z) (hm ▸ hz) z rfl)).mono fun e A s hq => ?_)
      cases e <;> first | exact hq.out | exact hq
  subst hs
  exact ⟨(key y0).less h0⟩

/-! ### Regions whose order is drawn -/
theorem WpS.draw (hE : EnvOk P E) {ops : Array Oper} {id : Nat} (ch fl : List Nat) (un : List (Nat × Nat)) (pm : List Nat) (hp : permOk pm ops.size = true)
    (hst : statOk E (reo pm ops.toList) ch fl un = true) (hc : covered E ch 0 (reo pm ops.toList) = true)
    (h : drawL E (reo pm ops.toList) 0 (reo pm ops.toList) (A.wipe (reo pm ops.toList) fl) s [] fun T A' s' => demL E T ch s un ∧ Q .normal A' s') : Held (WpS P n0 (.region id ops true) Q A s) :=
  ⟨wpS_draw_reo hE ch fl un pm hp hst hc h⟩

theorem runL_tr {E : Env} {ops : List Oper} {K : Fr → LS → Prop} : ∀ (rest : List Oper) (i : Nat) (A : Fr) (s : LS), runL E ops i rest A s K →
    ∃ T Af sf, TrOk E ops rest A s T Af sf ∧ K Af sf := by
  intro rest
  induction rest with
  | nil => intro i A s h; exact ⟨[], A, s, ⟨rfl, rfl⟩, h⟩
  | cons o r ih =>
    intro i A s h
    simp only [runL] at h
    obtain ⟨hd, h⟩ := dstOk_elim h
    rcases guardL_or h with ⟨hg, h⟩ | ⟨hg, h⟩
    · obtain ⟨v, s', h1, h2⟩ := det_opL E A o s _ h
      obtain ⟨T, Af, sf, h3, h4⟩ := ih _ _ _ (splitB_elim h2)
      exact ⟨⟨o, A, s, v, s', true⟩ :: T, Af, sf, ⟨⟨rfl, rfl, rfl, hd, .inl ⟨rfl, hg, h1⟩⟩, h3⟩, h4⟩
    · obtain ⟨T, Af, sf, h3, h4⟩ := ih _ _ _ h
      exact ⟨⟨o, A, s, .tup [], s, false⟩ :: T, Af, sf, ⟨⟨rfl, rfl, rfl, hd, .inr ⟨rfl, hg, rfl, rfl⟩⟩, h3⟩, h4⟩

/-- A region of which no two orders differ, as is plain: what it does to the heap is a chain, and nothing looks at the heap beside it. -/
theorem WpS.plain (hE : EnvOk P E) {ops : Array Oper} {id : Nat} (ch : List Nat) (hst : statOk E ops.toList ch [] [] = true) (hc : covered E ch 0 ops.toList = true)
    (h : runL E ops.toList 0 ops.toList A s fun A' s' => Q .normal A' s') : Held (WpS P n0 (.region id ops true) Q A s) := by
  obtain ⟨T, Af, sf, hT, hq⟩ := runL_tr _ _ _ _ h
  exact ⟨wpS_draw_tr hE ch [] [] hst hT (eqL_covered hT hc) trivial hq⟩

end
end Den
/- Den, part 41: a contract over a small heap holds over a greater one, its names turned. -/
set_option linter.unusedSimpArgs false
set_option linter.unusedVariables false
namespace Den
open Go

/-- A value, its names turned. -/
inductive Ren (D : Nat → Prop) (ρ : Nat → Nat) : LV → LV → Prop
  | bool (b : Bool) : Ren D ρ (.bool b) (.bool b)
  | int (k : IntKind) (m : Int) : Ren D ρ (.int k m) (.int k m)
  | flt (k : FloatKind) (b : Nat) : Ren D ρ (.flt k b) (.flt k b)
  | cpx (k : FloatKind) (a b : Nat) : Ren D ρ (.cpx k a b) (.cpx k a b)
  | str (b : List UInt8) : Ren D ρ (.str b) (.str b)
  | nilp : Ren D ρ .nilp .nilp
  | nils : Ren D ρ .nils .nils
  | nilm : Ren D ρ .nilm .nilm
  | nilf : Ren D ρ .nilf .nilf
  | bptr (k j : Nat) (h : D k) : Ren D ρ (.bptr k j) (.bptr (ρ k) j)
  | rptr (k i j len : Nat) (h : D k) : Ren D ρ (.rptr k i j len) (.rptr (ρ k) i j len)
  | hsl (k i m : Nat) (cc : Option Nat) (h : D k) : Ren D ρ (.hsl k i m cc) (.hsl (ρ k) i m cc)
  | map (k : Nat) (h : D k) : Ren D ρ (.map k) (.map (ρ k))
  | lit (es us : List LV) (full : Bool) (hl : us.length = es.length) (h : ∀ (i : Nat) e u, es[i]? = some e → us[i]? = some u → Ren D ρ e u) : Ren D ρ (.lit es full) (.lit us full)
  | lptr (e u : LV) (j : Nat) (h : Ren D ρ e u) : Ren D ρ (.lptr e j) (.lptr u j)
  | agg (es us : List LV) (hl : us.length = es.length) (h : ∀ (i : Nat) e u, es[i]? = some e → us[i]? = some u → Ren D ρ e u) : Ren D ρ (.agg es) (.agg us)
  | tup (es us : List LV) (hl : us.length = es.length) (h : ∀ (i : Nat) e u, es[i]? = some e → us[i]? = some u → Ren D ρ e u) : Ren D ρ (.tup es) (.tup us)
  | fn (f : Nat) (es us : List LV) (hl : us.length = es.length) (h : ∀ (i : Nat) e u, es[i]? = some e → us[i]? = some u → Ren D ρ e u) : Ren D ρ (.fn f es) (.fn f us)

def RenL (D : Nat → Prop) (ρ : Nat → Nat) (es us : List LV) : Prop := us.length = es.length ∧ ∀ (i : Nat) e u, es[i]? = some e → us[i]? = some u → Ren D ρ e u

def RenO (D : Nat → Prop) (ρ : Nat → Nat) : LObj → LObj → Prop
  | .box v t, .box u t' => t' = t ∧ Ren D ρ v u
  | .row es t g, .row us t' g' => t' = t ∧ g' = g ∧ RenL D ρ es us
  | .mp kv, .mp kv' => kv'.length = kv.length ∧ ∀ (i : Nat) p q, kv[i]? = some p → kv'[i]? = some q → Ren D ρ p.1 q.1 ∧ Ren D ρ p.2 q.2
  | _, _ => False

section
variable {D : Nat → Prop} {ρ : Nat → Nat}

theorem Ren.cells {v u : LV} (h : Ren D ρ v u) : RenL D ρ v.cells u.cells := by
  have one : ∀ (v u : LV), Ren D ρ v u → v.cells = [v] → u.cells = [u] → RenL D ρ v.cells u.cells := by
    intro v u h h1 h2
    rw [h1, h2]
    refine ⟨rfl, fun j x y hx hy => ?_⟩
    cases j with
    | zero => simp at hx hy; subst hx; subst hy; exact h
    | succ j => simp at hx
  cases h with
  | agg es us hl h => exact ⟨hl, h⟩
  | bool b => exact one _ _ (.bool b) rfl rfl
  | int k m => exact one _ _ (.int k m) rfl rfl
  | flt k b => exact one _ _ (.flt k b) rfl rfl
  | cpx k a b => exact one _ _ (.cpx k a b) rfl rfl
  | str b => exact one _ _ (.str b) rfl rfl
  | nilp => exact one _ _ .nilp rfl rfl
  | nils => exact one _ _ .nils rfl rfl
  | nilm => exact one _ _ .nilm rfl rfl
  | nilf => exact one _ _ .nilf rfl rfl
  | bptr k j h => exact one _ _ (.bptr k j h) rfl rfl
  | rptr k i j len h => exact one _ _ (.rptr k i j len h) rfl rfl
  | hsl k i m cc h => exact one _ _ (.hsl k i m cc h) rfl rfl
  | map k h => exact one _ _ (.map k h) rfl rfl
  | lit es us full hl h => exact one _ _ (.lit es us full hl h) rfl rfl
  | lptr e u j h => exact one _ _ (.lptr e u j h) rfl rfl
  | tup es us hl h => exact one _ _ (.tup es us hl h) rfl rfl
  | fn f es us hl h => exact one _ _ (.fn f es us hl h) rfl rfl

theorem eq_of_get {l : List LV} (i : Nat) (e u : LV) (he : l[i]? = some e) (hu : l[i]? = some u) : u = e := by
  rw [he] at hu; injection hu with hu; exact hu.symm

/-- What refers to nothing stays as it is. -/
theorem Ren.closed {v : LV} (h : Refs 0 v) : Ren D ρ v v := by
  induction h with
  | bool b => exact .bool b
  | int k m => exact .int k m
  | flt k b => exact .flt k b
  | cpx k a b => exact .cpx k a b
  | str b => exact .str b
  | nilp => exact .nilp
  | nils => exact .nils
  | nilm => exact .nilm
  | nilf => exact .nilf
  | bptr id j h => omega
  | rptr id i j len h => omega
  | hsl id i m cc h => omega
  | map id h => omega
  | lit es full h ih => exact .lit es es full rfl fun i e u he hu => by rw [eq_of_get i e u he hu]; exact ih e (List.mem_of_getElem? he)
  | lptr e j h ih => exact .lptr e e j ih
  | agg es h ih => exact .agg es es rfl fun i e u he hu => by rw [eq_of_get i e u he hu]; exact ih e (List.mem_of_getElem? he)
  | tup es h ih => exact .tup es es rfl fun i e u he hu => by rw [eq_of_get i e u he hu]; exact ih e (List.mem_of_getElem? he)
  | fn f es h ih => exact .fn f es es rfl fun i e u he hu => by rw [eq_of_get i e u he hu]; exact ih e (List.mem_of_getElem? he)

/-- The names turned back. -/
theorem Ren.inv {D' : Nat → Prop} {σ : Nat → Nat} (hσ : ∀ k, D k → σ (ρ k) = k ∧ D' (ρ k)) {v u : LV} (h : Ren D ρ v u) : Ren D' σ u v := by
  induction h with
  | bool b => exact .bool b
  | int k m => exact .int k m
  | flt k b => exact .flt k b
  | cpx k a b => exact .cpx k a b
  | str b => exact .str b
  | nilp => exact .nilp
  | nils => exact .nils
  | nilm => exact .nilm
  | nilf => exact .nilf
  | bptr k j h => have := Ren.bptr (ρ := σ) (ρ k) j (hσ k h).2; rwa [(hσ k h).1] at this
  | rptr k i j len h => have := Ren.rptr (ρ := σ) (ρ k) i j len (hσ k h).2; rwa [(hσ k h).1] at this
  | hsl k i m cc h => have := Ren.hsl (ρ := σ) (ρ k) i m cc (hσ k h).2; rwa [(hσ k h).1] at this
  | map k h => have := Ren.map (ρ := σ) (ρ k) (hσ k h).2; rwa [(hσ k h).1] at this
  | lit es us full hl h ih => exact .lit us es full hl.symm fun i e u he hu => ih i u e hu he
  | lptr e u j h ih => exact .lptr u e j ih
  | agg es us hl h ih => exact .agg us es hl.symm fun i e u he hu => ih i u e hu he
  | tup es us hl h ih => exact .tup us es hl.symm fun i e u he hu => ih i u e hu he
  | fn f es us hl h ih => exact .fn f us es hl.symm fun i e u he hu => ih i u e hu he

/-- From names to others, in the same world. -/
structure Turn (D : Nat → Prop) (ρ : Nat → Nat) (c d : Cx) : Prop where
  w : d.w = c.w
  ok : ∀ k, D k → c.ok k → d.ok (ρ k)
  ι : ∀ k o, D k → d.s.get (ρ k) = some o → d.ι (ρ k) = c.ι k
  obj : ∀ k o, D k → d.s.get (ρ k) = some o → ∃ o0, c.s.get k = some o0 ∧ RenO D ρ o0 o
  z : ∀ b, b < c.w.heap.size → ¬ c.Z b → ¬ d.Z b

theorem VR.ren {P : Program} {c d : Cx} (hT : Turn D ρ c d) {v u : LV} (h : Ren D ρ v u) : ∀ {x : Value}, VR P c v x → VR P d u x := by
  induction h with
  | bool b => intro x hx; cases hx; exact .bool b
  | int k m => intro x hx; cases hx; exact .int k m
  | flt k b => intro x hx; cases hx; exact .flt k b
  | cpx k a b => intro x hx; cases hx; exact .cpx k a b
  | str b => intro x hx; cases hx; exact .str b
  | nilp => intro x hx; cases hx; exact .nilp
  | nils => intro x hx; cases hx; exact .nils
  | nilm => intro x hx; cases hx; exact .nilm
  | nilf => intro x hx; cases hx; exact .nilf
  | bptr k j hk =>
    intro x hx
    cases hx with
    | bptr _ _ a hn ha =>
      refine .bptr _ _ _ (hT.ok k hk hn) fun v t hg => ?_
      obtain ⟨o, h1, h2⟩ := hT.obj k _ hk hg
      rw [hT.ι k _ hk hg]
      cases o with
      | box v0 t0 => exact ha v0 t0 h1
      | row _ _ _ => exact h2.elim
      | mp _ => exact h2.elim
  | rptr k i j len hk =>
    intro x hx
    cases hx with
    | rptr _ _ _ _ a hn ha =>
      refine .rptr _ _ _ _ _ (hT.ok k hk hn) fun es t g hg => ?_
      obtain ⟨o, h1, h2⟩ := hT.obj k _ hk hg
      rw [hT.ι k _ hk hg]
      cases o with
      | box _ _ => exact h2.elim
      | mp _ => exact h2.elim
      | row es0 t0 g0 =>
        obtain ⟨rfl, rfl, h3, _⟩ := h2
        obtain ⟨h4, h5⟩ := ha es0 _ _ h1
        rw [h3]
        exact ⟨h4, h5⟩
  | hsl k i m cc hk =>
    intro x hx
    cases hx with
    | hsl _ _ _ _ a cc' hn hcap hcc ha =>
      refine .hsl _ _ _ _ _ _ (hT.ok k hk hn) hcap hcc fun es t g hg => ?_
      obtain ⟨o, h1, h2⟩ := hT.obj k _ hk hg
      rw [hT.ι k _ hk hg]
      cases o with
      | box _ _ => exact h2.elim
      | mp _ => exact h2.elim
      | row es0 t0 g0 =>
        obtain ⟨rfl, rfl, h3, _⟩ := h2
        obtain ⟨h4, h5⟩ := ha es0 _ _ h1
        rw [h3]
        exact ⟨h4, h5⟩
  | map k hk =>
    intro x hx
    cases hx with
    | map _ r hn ha =>
      refine .map _ _ (hT.ok k hk hn) fun kv hg => ?_
      obtain ⟨o, h1, h2⟩ := hT.obj k _ hk hg
      rw [hT.ι k _ hk hg]
      cases o with
      | box _ _ => exact h2.elim
      | row _ _ _ => exact h2.elim
      | mp kv0 => exact ha kv0 h1
  | lit es us full hl hf ih =>
    intro x hx
    cases hx with
    | lit0 a cc' _ hfull haa =>
      have : us = [] := List.eq_nil_of_length_eq_zero (by simpa using hl)
      subst this
      exact .lit0 a cc' full hfull haa
    | lit _ _ b o cc' esz vs m hlen hcap hfull hzz hb hsz hc hvv =>
      have back : ∀ (i : Nat) u, us[i]? = some u → ∃ e, es[i]? = some e ∧ Ren D ρ e u := fun i u hu => by
        have hi : i < es.length := by rw [← hl]; exact lt_len hu
        exact ⟨es[i], by simp [hi], hf i _ u (by simp [hi]) hu⟩
      refine .lit us full b o cc' esz vs m (by rw [hl]; exact hlen) hcap hfull (hT.z b hb hzz) (by rw [hT.w]; exact hb) ?_ ?_ ?_
      · intro i u hu
        obtain ⟨e, he, hfe⟩ := back i u hu
        rw [hfe.cells.1]; exact hsz i e he
      · intro i u j y hu hy
        obtain ⟨e, he, hfe⟩ := back i u hu
        have hj : j < e.cells.length := by rw [← hfe.cells.1]; exact lt_len hy
        rw [hT.w]
        exact hc i e j e.cells[j] he (by simp [hj])
      · intro i u j y hu hy
        obtain ⟨e, he, hfe⟩ := back i u hu
        obtain ⟨w, hw1, hw2⟩ := VR.gather (P := P) (c := c) (e := e) (f := vs i) fun j x hx => hvv i e j x he hx
        have hj : j < e.cells.length := by rw [← hfe.cells.1]; exact lt_len hy
        exact (ih i e u he hu hw1).cells.2 j y _ hy (hw2 j hj)
  | lptr e u j hf ih =>
    intro x hx
    cases hx with
    | lptr _ _ b o vs hzz hb hc hvv =>
      refine .lptr u j b o vs (hT.z b hb hzz) (by rw [hT.w]; exact hb) ?_ ?_
      · intro k y hy
        have hk : k < e.cells.length := by rw [← hf.cells.1]; exact lt_len hy
        rw [hT.w]
        exact hc k e.cells[k] (by simp [hk])
      · intro k y hy
        obtain ⟨w, hw1, hw2⟩ := VR.gather (P := P) (c := c) (e := e) (f := vs) hvv
        have hk : k < e.cells.length := by rw [← hf.cells.1]; exact lt_len hy
        exact (ih hw1).cells.2 k y _ hy (hw2 k hk)
  | agg es us hl hf ih =>
    intro x hx
    cases hx with
    | agg _ ds hd hvv =>
      refine .agg us ds (by rw [hl]; exact hd) fun i u d hu hd' => ?_
      have hi : i < es.length := by rw [← hl]; exact lt_len hu
      exact ih i es[i] u (by simp [hi]) hu (hvv i _ d (by simp [hi]) hd')
  | tup es us hl hf ih =>
    intro x hx
    cases hx with
    | tup _ ds hd hvv =>
      refine .tup us ds (by rw [hl]; exact hd) fun i u d hu hd' => ?_
      have hi : i < es.length := by rw [← hl]; exact lt_len hu
      exact ih i es[i] u (by simp [hi]) hu (hvv i _ d (by simp [hi]) hd')
  | fn f es us hl hf ih =>
    intro x hx
    cases hx with
    | fn _ _ ds hd hvv =>
      refine .fn f us ds (by rw [hl]; exact hd) fun i u d hu hd' => ?_
      have hi : i < es.length := by rw [← hl]; exact lt_len hu
      exact ih i es[i] u (by simp [hi]) hu (hvv i _ d (by simp [hi]) hd')

/-- An object of a world, its names turned. -/
structure ObjOk (P : Program) (d : Cx) (j : Nat) (o : LObj) : Prop where
  box : ∀ v t, o = .box v t → ∃ cs, d.w.heap[(d.ι j).1]? = some (.cells cs t (0, 0)) ∧ cs.size = v.cells.length ∧
    ∀ (q : Nat) x x', v.cells[q]? = some x → cs[q]? = some x' → VR P d x x'
  row : ∀ es t g, o = .row es t g → ∃ cs, d.w.heap[(d.ι j).1]? = some (.cells cs t (0, 0)) ∧
    cs.size = (d.ι j).2 * P.cellsOf t ∧ es.length ≤ (d.ι j).2 ∧ (∀ (i : Nat) e, es[i]? = some e → e.cells.length = P.cellsOf t) ∧
    ∀ (i : Nat) e (q : Nat) x x', es[i]? = some e → e.cells[q]? = some x → cs[i * P.cellsOf t + q]? = some x' → VR P d x x'
  mp : ∀ kv, o = .mp kv → ∃ es cl, d.w.heap[(d.ι j).1]? = some (.map es cl) ∧ es.size = kv.length ∧
    (∀ (i : Nat) p e, kv[i]? = some p → es[i]? = some e → VR P d p.1 e.key ∧ VR P d p.2 e.val ∧ e.born < cl)

theorem Rel.objOk {P : Program} {c : Cx} (hr : Rel P c) {k : Nat} {o : LObj} (h : c.s.get k = some o) : ObjOk P c k o :=
  ⟨fun v t e => hr.box k v t (e ▸ h), fun es t g e => hr.row k es t g (e ▸ h), fun kv e => hr.mp k kv (e ▸ h)⟩

/-- An object that is there before is there with other names. -/
theorem ObjOk.ren {P : Program} {c d : Cx} (hw : d.w = c.w) {k j : Nat} {o0 o : LObj} (h : ObjOk P c k o0) (ho : RenO D ρ o0 o) (hι : d.ι j = c.ι k)
    (hv : ∀ v u x, Ren D ρ v u → VR P c v x → VR P d u x) : ObjOk P d j o := by
  refine ⟨fun v t e => ?_, fun es t g e => ?_, fun kv e => ?_⟩
  · subst e
    cases o0 with
    | row _ _ _ => exact ho.elim
    | mp _ => exact ho.elim
    | box v0 t0 =>
      obtain ⟨rfl, ho⟩ := ho
      obtain ⟨cs, h1, h2, h3⟩ := h.box v0 _ rfl
      refine ⟨cs, by rw [hw, hι]; exact h1, by rw [h2, ho.cells.1], fun q x x' hx hx' => ?_⟩
      have hq : q < v0.cells.length := by rw [← ho.cells.1]; exact lt_len hx
      exact hv _ _ _ (ho.cells.2 q v0.cells[q] x (by simp [hq]) hx) (h3 q v0.cells[q] x' (by simp [hq]) hx')
  · subst e
    cases o0 with
    | box _ _ => exact ho.elim
    | mp _ => exact ho.elim
    | row es0 t0 g0 =>
      obtain ⟨rfl, rfl, hl, ho⟩ := ho
      obtain ⟨cs, h1, h2, h3, h4, h5⟩ := h.row es0 _ _ rfl
      refine ⟨cs, by rw [hw, hι]; exact h1, by rw [hι]; exact h2, by rw [hι, hl]; exact h3, fun i e he => ?_, fun i e q x x' he hx hx' => ?_⟩
      · have hi : i < es0.length := by rw [← hl]; exact lt_len he
        rw [(ho i es0[i] e (by simp [hi]) he).cells.1]; exact h4 i _ (by simp [hi])
      · have hi : i < es0.length := by rw [← hl]; exact lt_len he
        have hR := ho i es0[i] e (by simp [hi]) he
        have hq : q < es0[i].cells.length := by rw [← hR.cells.1]; exact lt_len hx
        exact hv _ _ _ (hR.cells.2 q es0[i].cells[q] x (by simp [hq]) hx) (h5 i es0[i] q es0[i].cells[q] x' (by simp [hi]) (by simp [hq]) hx')
  · subst e
    cases o0 with
    | box _ _ => exact ho.elim
    | row _ _ _ => exact ho.elim
    | mp kv0 =>
      obtain ⟨hl, ho⟩ := ho
      obtain ⟨es, cl, h1, h2, h3⟩ := h.mp kv0 rfl
      refine ⟨es, cl, by rw [hw, hι]; exact h1, by rw [h2, hl], fun i p e hp he => ?_⟩
      have hi : i < kv0.length := by rw [← hl]; exact lt_len hp
      obtain ⟨r1, r2⟩ := ho i kv0[i] p (by simp [hi]) hp
      obtain ⟨h4, h5, h6⟩ := h3 i kv0[i] e (by simp [hi]) he
      exact ⟨hv _ _ _ r1 h4, hv _ _ _ r2 h5, h6⟩

end

theorem RenL.inv {D D' : Nat → Prop} {ρ σ : Nat → Nat} (hσ : ∀ k, D k → σ (ρ k) = k ∧ D' (ρ k)) {es us : List LV} (h : RenL D ρ es us) : RenL D' σ us es :=
  ⟨h.1.symm, fun i u e hu he => (h.2 i e u he hu).inv hσ⟩

theorem RenO.inv {D D' : Nat → Prop} {ρ σ : Nat → Nat} (hσ : ∀ k, D k → σ (ρ k) = k ∧ D' (ρ k)) {o o' : LObj} (h : RenO D ρ o o') : RenO D' σ o' o := by
  cases o <;> cases o' <;> simp only [RenO] at h ⊢
  · exact ⟨h.1.symm, h.2.inv hσ⟩
  · exact ⟨h.1.symm, h.2.1.symm, h.2.2.inv hσ⟩
  · exact ⟨h.1.symm, fun i p q hp hq => ⟨(h.2 i q p hq hp).1.inv hσ, (h.2 i q p hq hp).2.inv hσ⟩⟩

/-- One heap within another: `ρ` tells where the small one's names lie. -/
structure Within (D : Nat → Prop) (s0 s : LS) (ρ : Nat → Nat) : Prop where
  fore : ∀ k o, D k → s0.get k = some o → ∃ o', s.get (ρ k) = some o' ∧ RenO D ρ o o'
  back : ∀ k o', D k → s.get (ρ k) = some o' → ∃ o, s0.get k = some o ∧ RenO D ρ o o'

/-- All that is asked of the names: where the small heap's lie in the great one, before and behind the call. -/
structure Framed (s0 s1 s s' : LS) (ρ ρ' : Nat → Nat) : Prop where
  lt0 : ∀ k o, s0.get k = some o → k < s0.next
  le : s0.next ≤ s1.next
  lt : ∀ k, k < s0.next → ρ k < s.next
  inj : ∀ k k', k < s0.next → k' < s0.next → ρ k = ρ k' → k = k'
  old : ∀ k, k < s0.next → ρ' k = ρ k
  new : ∀ k, s0.next ≤ k → k < s1.next → ρ' k = s.next + (k - s0.next)
  next : s'.next = s.next + (s1.next - s0.next)
  before : Within (· < s0.next) s0 s ρ
  behind : Within (· < s1.next) s1 s' ρ'
  rest : ∀ j, j < s.next → (∀ k, k < s0.next → ρ k ≠ j) → s'.get j = s.get j
  lt' : ∀ j o, s'.get j = some o → j < s'.next

section
variable {P : Program}

theorem Holds.frame {f : Nat} {args0 args : List LV} {s0 s1 s s' : LS} {v0 v : LV} {ρ ρ' : Nat → Nat} (h : Holds P f args0 s0 v0 s1) (F : Framed s0 s1 s s' ρ ρ')
    (ha : RenL (· < s0.next) ρ args0 args) (hv : Ren (· < s1.next) ρ' v0 v) : Holds P f args s v s' := by
  refine ⟨h.1, ?_⟩
  intro X R ι w args' hr hl hvv
  have image : ∀ j, (∃ k, k < s0.next ∧ ρ k = j) ∨ (∀ k, k < s0.next → ρ k ≠ j) := fun j => by
    rcases Classical.em (∃ k, k < s0.next ∧ ρ k = j) with h | h
    · exact .inl h
    · exact .inr fun k hk e => h ⟨k, hk, e⟩
  obtain ⟨σ, hσ⟩ : ∃ σ : Nat → Nat, ∀ k, k < s0.next → σ (ρ k) = k := by
    refine ⟨fun j => @dite _ (∃ k, k < s0.next ∧ ρ k = j) (Classical.propDecidable _) (fun h => Classical.choose h) (fun _ => 0), fun k hk => ?_⟩
    have hx : ∃ k', k' < s0.next ∧ ρ k' = ρ k := ⟨k, hk, rfl⟩
    simp only [hx, dif_pos]
    exact F.inj _ _ (Classical.choose_spec hx).1 hk (Classical.choose_spec hx).2
  let c : Cx := ⟨X, R, ι, s, w⟩
  let c0 : Cx := ⟨fun b => X b ∨ ∃ j o, s.get j = some o ∧ (∀ k, k < s0.next → ρ k ≠ j) ∧ (ι j).1 = b, fun k => k < s0.next ∧ R (ρ k), fun k => ι (ρ k), s0, w⟩
  have lb0 : ∀ b, c0.Lb b → c.Lb b := by
    rintro b ⟨k, o, h1, h2⟩
    obtain ⟨o', h3, _⟩ := F.before.fore k o (F.lt0 k o h1) h1
    exact ⟨ρ k, o', h3, h2⟩
  have z0 : ∀ b, ¬ c.Z b → ¬ c0.Z b := by
    rintro b hb ((hx | ⟨j, o, h1, _, h2⟩) | hx)
    · exact hb (.inl hx)
    · exact hb (.inr ⟨j, o, h1, h2⟩)
    · exact hb (.inr (lb0 b hx))
  have T0 : Turn (fun j => ∃ k, k < s0.next ∧ ρ k = j) σ c c0 := by
    refine ⟨rfl, ?_, ?_, ?_, fun b _ hb => z0 b hb⟩
    · rintro j ⟨k, hk, rfl⟩ hj
      rw [hσ k hk]
      exact ⟨hk, fun hR => hj.2 hR.2⟩
    · rintro j o ⟨k, hk, rfl⟩ _
      rw [hσ k hk]
    · rintro j o ⟨k, hk, rfl⟩ hg
      rw [hσ k hk] at hg
      obtain ⟨o', h1, h2⟩ := F.before.fore k o hk hg
      exact ⟨o', h1, h2.inv fun k hk => ⟨hσ k hk, k, hk, rfl⟩⟩
  have hr0 : Rel P c0 := by
    have obj : ∀ k o, s0.get k = some o → ObjOk P c0 k o := fun k o hg => by
      have hk := F.lt0 k o hg
      obtain ⟨o', h1, h2⟩ := F.before.fore k o hk hg
      exact (hr.objOk h1).ren (c := c) (d := c0) rfl (h2.inv (σ := σ) (D' := fun j => ∃ k, k < s0.next ∧ ρ k = j) fun k hk => ⟨hσ k hk, k, hk, rfl⟩) rfl fun v u x hvu hx => hx.ren T0 hvu
    refine ⟨F.lt0, ?_, ?_, ?_, ?_, ?_, fun k v t hg => (obj k _ hg).box v t rfl, fun k es t g hg => (obj k _ hg).row es t g rfl, fun k kv hg => (obj k _ hg).mp kv rfl⟩
    · rintro k ⟨hk, hR⟩
      refine ⟨hk, ?_⟩
      cases hg : s0.get k with
      | none => rfl
      | some o =>
        obtain ⟨o', h1, _⟩ := F.before.fore k o hk hg
        have := (hr.res _ hR).2
        rw [h1] at this; cases this
    · intro k o hg
      obtain ⟨o', h1, _⟩ := F.before.fore k o (F.lt0 k o hg) hg
      exact hr.blt _ _ h1
    · intro k k' o o' hg hg' he
      obtain ⟨_, h1, _⟩ := F.before.fore k o (F.lt0 k o hg) hg
      obtain ⟨_, h2, _⟩ := F.before.fore k' o' (F.lt0 k' o' hg') hg'
      exact F.inj _ _ (F.lt0 k o hg) (F.lt0 k' o' hg') (hr.inj _ _ _ _ h1 h2 he)
    · rintro b (hx | ⟨j, o, h1, h2, h3⟩) hl'
      · exact hr.dis b hx (lb0 b hl')
      · obtain ⟨k, ok, h4, h5⟩ := hl'
        obtain ⟨_, h6, _⟩ := F.before.fore k ok (F.lt0 k ok h4) h4
        exact h2 k (F.lt0 k ok h4) (hr.inj _ _ _ _ h6 h1 (h5.trans h3.symm))
    · rintro b (hx | ⟨j, o, h1, h2, h3⟩)
      · exact hr.xlt b hx
      · rw [← h3]; exact hr.blt j o h1
  refine (h.2 c0.X c0.R c0.ι w args' hr0 (by rw [hl]; exact ha.1) (fun i v v' hv0 hv' => ?_)).mono ?_
  · have hi : i < args.length := by rw [ha.1]; exact lt_len hv0
    exact (hvv i args[i] v' (by simp [hi]) hv').ren T0 ((ha.2 i v args[i] hv0 (by simp [hi])).inv fun k hk => ⟨hσ k hk, k, hk, rfl⟩)
  rintro e w' ⟨ι', x', rfl, hr1, hE, hx'⟩
  let c1 : Cx := ⟨c0.X, c0.R, ι', s1, w'⟩
  have new' : ∀ k, k < s1.next → s0.next ≤ k → s.next ≤ ρ' k := fun k hk h => by rw [F.new k h hk]; omega
  have inj' : ∀ k k', k < s1.next → k' < s1.next → ρ' k = ρ' k' → k = k' := by
    intro k k' hk hk' he
    rcases Nat.lt_or_ge k s0.next with h1 | h1 <;> rcases Nat.lt_or_ge k' s0.next with h2 | h2
    · rw [F.old k h1, F.old k' h2] at he; exact F.inj k k' h1 h2 he
    · rw [F.old k h1] at he; have := F.lt k h1; have := new' k' hk' h2; omega
    · rw [F.old k' h2] at he; have := F.lt k' h2; have := new' k hk h1; omega
    · rw [F.new k h1 hk, F.new k' h2 hk'] at he; omega
  obtain ⟨τ, hτ⟩ : ∃ τ : Nat → Nat, ∀ k, k < s1.next → τ (ρ' k) = k := by
    refine ⟨fun j => @dite _ (∃ k, k < s1.next ∧ ρ' k = j) (Classical.propDecidable _) (fun h => Classical.choose h) (fun _ => 0), fun k hk => ?_⟩
    have hx : ∃ k', k' < s1.next ∧ ρ' k' = ρ' k := ⟨k, hk, rfl⟩
    simp only [hx, dif_pos]
    exact inj' _ _ (Classical.choose_spec hx).1 hk (Classical.choose_spec hx).2
  have image' : ∀ j, (∃ k, k < s1.next ∧ ρ' k = j) ∨ (∀ k, k < s1.next → ρ' k ≠ j) := fun j => by
    rcases Classical.em (∃ k, k < s1.next ∧ ρ' k = j) with h | h
    · exact .inl h
    · exact .inr fun k hk e => h ⟨k, hk, e⟩
  obtain ⟨ι'', hi1, hi2⟩ : ∃ ι'' : Nat → Nat × Nat, (∀ k, k < s1.next → ι'' (ρ' k) = ι' k) ∧ ∀ j, (∀ k, k < s1.next → ρ' k ≠ j) → ι'' j = ι j := by
    refine ⟨fun j => @ite _ (∃ k, k < s1.next ∧ ρ' k = j) (Classical.propDecidable _) (ι' (τ j)) (ι j), fun k hk => ?_, fun j hj => ?_⟩
    · have hx : ∃ k', k' < s1.next ∧ ρ' k' = ρ' k := ⟨k, hk, rfl⟩
      simp only [hx, if_true, hτ k hk]
    · have hx : ¬ ∃ k, k < s1.next ∧ ρ' k = j := fun ⟨k, hk, e⟩ => hj k hk e
      simp only [hx, if_false]
  let c2 : Cx := ⟨X, R, ι'', s', w'⟩
  -- an object of the great heap: within the small one, or beside it
  have part : ∀ j o, s'.get j = some o → (∃ k o1, k < s1.next ∧ ρ' k = j ∧ s1.get k = some o1 ∧ RenO (· < s1.next) ρ' o1 o) ∨ ((∀ k, k < s1.next → ρ' k ≠ j) ∧ (∀ k, k < s0.next → ρ k ≠ j) ∧ j < s.next ∧ s.get j = some o) := by
    intro j o hg
    rcases image' j with ⟨k, hk, rfl⟩ | hn
    · obtain ⟨o1, h1, h2⟩ := F.behind.back k o hk hg
      exact .inl ⟨k, o1, hk, rfl, h1, h2⟩
    · have hn0 : ∀ k, k < s0.next → ρ k ≠ j := fun k hk e => hn k (Nat.lt_of_lt_of_le hk F.le) (by rw [F.old k hk]; exact e)
      have hj : j < s.next := by
        have h1 := F.lt' j o hg
        rw [F.next] at h1
        rcases Nat.lt_or_ge j s.next with h2 | h2
        · exact h2
        · exact absurd (by rw [F.new (s0.next + (j - s.next)) (by omega) (by omega)]; omega) (hn (s0.next + (j - s.next)) (by omega))
      exact .inr ⟨hn, hn0, hj, by rw [← F.rest j hj hn0]; exact hg⟩
  have beside : ∀ j o, s.get j = some o → (∀ k, k < s0.next → ρ k ≠ j) → c0.X (ι j).1 := fun j o hg hn => .inr ⟨j, o, hg, hn, rfl⟩
  have lb2 : ∀ b, c2.Lb b → c1.Lb b ∨ ∃ j o, s.get j = some o ∧ (∀ k, k < s0.next → ρ k ≠ j) ∧ (ι j).1 = b := by
    rintro b ⟨j, o, hg, he⟩
    rcases part j o hg with ⟨k, o1, hk, rfl, h1, h2⟩ | ⟨hn, hn0, hj, h1⟩
    · have he' : (ι'' (ρ' k)).1 = b := he
      rw [hi1 k hk] at he'
      exact .inl ⟨k, o1, h1, he'⟩
    · have he' : (ι'' j).1 = b := he
      rw [hi2 j hn] at he'
      exact .inr ⟨j, o, h1, hn0, he'⟩
  have T1 : Turn (· < s1.next) ρ' c1 c2 := by
    refine ⟨rfl, ?_, ?_, ?_, ?_⟩
    · rintro k hk ⟨hk1, hk2⟩
      refine ⟨?_, fun hR => ?_⟩
      · show ρ' k < s'.next
        rw [F.next]
        rcases Nat.lt_or_ge k s0.next with h1 | h1
        · rw [F.old k h1]; have := F.lt k h1; omega
        · rw [F.new k h1 hk]; omega
      · rcases Nat.lt_or_ge k s0.next with h1 | h1
        · rw [F.old k h1] at hR; exact hk2 ⟨h1, hR⟩
        · have h2 := (hr.res _ hR).1
          have h3 := new' k hk h1
          have h4 : (⟨X, R, ι, s, w⟩ : Cx).s.next = s.next := rfl
          omega
    · intro k o hk hg; exact hi1 k hk
    · intro k o hk hg; exact F.behind.back k o hk hg
    · rintro b hb hz (hx | hx)
      · exact hz (.inl (.inl hx))
      · rcases lb2 b hx with h1 | ⟨j, o, h1, h2, h3⟩
        · exact hz (.inr h1)
        · exact hz (.inl (.inr ⟨j, o, h1, h2, h3⟩))
  have hEx : Ext c c2 := by
    refine ⟨rfl, rfl, by show s.next ≤ s'.next; rw [F.next]; omega, hE.size, ?_, ?_, ?_, ?_, ?_, hE.os, hE.tape, hE.output⟩
    · intro id v' t' hid hg
      rcases part id _ hg with ⟨k, o1, hk, rfl, h1, h2⟩ | ⟨hn, hn0, hj, h1⟩
      · have hk0 : k < s0.next := by
          rcases Nat.lt_or_ge k s0.next with h3 | h3
          · exact h3
          · have h4 := new' k hk h3
            have h5 : c.s.next = s.next := rfl
            omega
        cases o1 with
        | row _ _ _ => exact h2.elim
        | mp _ => exact h2.elim
        | box v1 t1 =>
          obtain ⟨rfl, _⟩ := h2
          obtain ⟨h3, v3, h4⟩ := hE.box k v1 _ hk0 h1
          obtain ⟨o', h5, h6⟩ := F.before.fore k _ hk0 h4
          cases o' with
          | row _ _ _ => exact h6.elim
          | mp _ => exact h6.elim
          | box v5 t5 =>
            obtain ⟨rfl, _⟩ := h6
            exact ⟨by show ι'' (ρ' k) = ι (ρ' k); rw [hi1 k hk, F.old k hk0]; exact h3, v5, by show s.get (ρ' k) = _; rw [F.old k hk0]; exact h5⟩
      · exact ⟨hi2 id hn, v', h1⟩
    · intro id es' t' g' hid hg
      rcases part id _ hg with ⟨k, o1, hk, rfl, h1, h2⟩ | ⟨hn, hn0, hj, h1⟩
      · have hk0 : k < s0.next := by
          rcases Nat.lt_or_ge k s0.next with h3 | h3
          · exact h3
          · have h4 := new' k hk h3
            have h5 : c.s.next = s.next := rfl
            omega
        cases o1 with
        | box _ _ => exact h2.elim
        | mp _ => exact h2.elim
        | row es1 t1 g1 =>
          obtain ⟨rfl, rfl, h2l, _⟩ := h2
          obtain ⟨es3, g3, h4, h5, h6, h7⟩ := hE.row k es1 _ _ hk0 h1
          obtain ⟨o', h8, h9⟩ := F.before.fore k _ hk0 h4
          cases o' with
          | box _ _ => exact h9.elim
          | mp _ => exact h9.elim
          | row es5 t5 g5 =>
            obtain ⟨rfl, rfl, h9l, _⟩ := h9
            refine ⟨es5, _, by show s.get (ρ' k) = _; rw [F.old k hk0]; exact h8, by rw [h9l, h2l]; exact h5, ?_, h7⟩
            rcases h6 with h6 | ⟨h6, h10⟩
            · exact .inl (by show ι'' (ρ' k) = ι (ρ' k); rw [hi1 k hk, F.old k hk0]; exact h6)
            · exact .inr ⟨h6, by rw [h9l, h2l]; exact h10⟩
      · exact ⟨es', g', h1, Nat.le_refl _, .inl (hi2 id hn), fun h => h⟩
    · intro id kv' hid hg
      rcases part id _ hg with ⟨k, o1, hk, rfl, h1, h2⟩ | ⟨hn, hn0, hj, h1⟩
      · have hk0 : k < s0.next := by
          rcases Nat.lt_or_ge k s0.next with h3 | h3
          · exact h3
          · have h4 := new' k hk h3
            have h5 : c.s.next = s.next := rfl
            omega
        cases o1 with
        | box _ _ => exact h2.elim
        | row _ _ _ => exact h2.elim
        | mp kv1 =>
          obtain ⟨h3, kv3, h4⟩ := hE.mp k kv1 hk0 h1
          obtain ⟨o', h5, h6⟩ := F.before.fore k _ hk0 h4
          cases o' with
          | box _ _ => exact h6.elim
          | row _ _ _ => exact h6.elim
          | mp kv5 =>
            exact ⟨by show ι'' (ρ' k) = ι (ρ' k); rw [hi1 k hk, F.old k hk0]; exact h3, kv5, by show s.get (ρ' k) = _; rw [F.old k hk0]; exact h5⟩
      · exact ⟨hi2 id hn, kv', h1⟩
    · intro b hb hl2
      rcases lb2 b hl2 with h1 | ⟨j, o, h1, _, h3⟩
      · exact lb0 b (hE.zed b hb h1)
      · exact ⟨j, o, h1, h3⟩
    · intro b hb hn
      exact hE.same b hb fun h => hn (lb0 b h)
  have hR2 : Rel P c2 := by
    have obj : ∀ j o, s'.get j = some o → ObjOk P c2 j o := by
      intro j o hg
      rcases part j o hg with ⟨k, o1, hk, rfl, h1, h2⟩ | ⟨hn, hn0, hj, h1⟩
      · exact (hr1.objOk h1).ren (c := c1) (d := c2) rfl h2 (hi1 k hk) fun v u x hvu hx => hx.ren T1 hvu
      · have ho := hr.objOk h1
        have hb : w'.heap[(ι j).1]? = w.heap[(ι j).1]? := hE.same _ (hr.blt j o h1) fun h => hr0.dis _ (beside j o h1 hn0) h
        have hij : c2.ι j = ι j := hi2 j hn
        refine ⟨fun v t e => ?_, fun es t g e => ?_, fun kv e => ?_⟩
        · obtain ⟨cs, h3, h4, h5⟩ := ho.box v t e
          exact ⟨cs, by rw [hij]; show w'.heap[(ι j).1]? = _; rw [hb]; exact h3, h4, fun q x x' hx hx' => (h5 q x x' hx hx').mono hEx⟩
        · obtain ⟨cs, h3, h4, h5, h6, h7⟩ := ho.row es t g e
          exact ⟨cs, by rw [hij]; show w'.heap[(ι j).1]? = _; rw [hb]; exact h3, by rw [hij]; exact h4, by rw [hij]; exact h5, h6, fun i e q x x' he hx hx' => (h7 i e q x x' he hx hx').mono hEx⟩
        · obtain ⟨es, cl, h3, h4, h5⟩ := ho.mp kv e
          exact ⟨es, cl, by rw [hij]; show w'.heap[(ι j).1]? = _; rw [hb]; exact h3, h4, fun i p e hp he => by
            obtain ⟨h6, h7, h8⟩ := h5 i p e hp he
            exact ⟨h6.mono hEx, h7.mono hEx, h8⟩⟩
    refine ⟨F.lt', ?_, ?_, ?_, ?_, fun b hb => Nat.lt_of_lt_of_le (hr.xlt b hb) hE.size, fun k v t hg => (obj k _ hg).box v t rfl, fun k es t g hg => (obj k _ hg).row es t g rfl, fun k kv hg => (obj k _ hg).mp kv rfl⟩
    · intro id hR
      obtain ⟨h1, h2⟩ := hr.res id hR
      have h1' : id < s.next := h1
      refine ⟨by show id < s'.next; rw [F.next]; omega, ?_⟩
      cases hg : s'.get id with
      | none => rfl
      | some o =>
        rcases part id o hg with ⟨k, o1, hk, rfl, h3, h4⟩ | ⟨_, _, _, h3⟩
        · have hk0 : k < s0.next := by
            rcases Nat.lt_or_ge k s0.next with h5 | h5
            · exact h5
            · have := new' k hk h5; omega
          have := (hr1.res k ⟨hk0, by rw [← F.old k hk0]; exact hR⟩).2
          have h3' : (⟨c0.X, c0.R, ι', s1, w'⟩ : Cx).s.get k = some o1 := h3
          rw [h3'] at this; cases this
        · have h2' : s.get id = none := h2
          rw [h2'] at h3; cases h3
    · intro j o hg
      rcases part j o hg with ⟨k, o1, hk, rfl, h3, h4⟩ | ⟨hn, _, _, h3⟩
      · show (ι'' (ρ' k)).1 < _; rw [hi1 k hk]; exact hr1.blt k o1 h3
      · show (ι'' j).1 < _; rw [hi2 j hn]; exact Nat.lt_of_lt_of_le (hr.blt j o h3) hE.size
    · intro j j' o o' hg hg' he
      have he : (ι'' j).1 = (ι'' j').1 := he
      rcases part j o hg with ⟨k, o1, hk, rfl, h3, h4⟩ | ⟨hn, hn0, _, h3⟩ <;> rcases part j' o' hg' with ⟨k', o1', hk', rfl, h3', h4'⟩ | ⟨hn', hn0', _, h3'⟩
      · rw [hi1 k hk, hi1 k' hk'] at he
        rw [hr1.inj k k' o1 o1' h3 h3' he]
      · rw [hi1 k hk, hi2 j' hn'] at he
        exact absurd ⟨k, o1, h3, he⟩ (hr1.dis _ (beside j' o' h3' hn0'))
      · rw [hi2 j hn, hi1 k' hk'] at he
        exact absurd ⟨k', o1', h3', he.symm⟩ (hr1.dis _ (beside j o h3 hn0))
      · rw [hi2 j hn, hi2 j' hn'] at he
        exact hr.inj j j' o o' h3 h3' he
    · intro b hb hl2
      rcases lb2 b hl2 with h1 | ⟨j, o, h1, _, h3⟩
      · exact hr1.dis b (.inl hb) h1
      · exact hr.dis b hb ⟨j, o, h1, h3⟩
  exact ⟨ι'', x', rfl, hR2, hEx, hx'.ren T1 hv⟩

/-! ### A function that takes nothing of the heap and leaves nothing -/
variable {E : Env}

structure FinP (v : LV) (s' : LS) (u : LV) : Prop where
  of ::
  frz : Frz s' 0 (fun k => k) (fun _ => True) u v

theorem Frz.same {s : LS} {n2 : Nat} {ρ : Nat → Nat} {dd : Nat → Prop} {v : LV} (h : Refs 0 v) : Frz s n2 ρ dd v v := by
  induction h with
  | bool b => exact .bool b
  | int k m => exact .int k m
  | flt k b => exact .flt k b
  | cpx k a b => exact .cpx k a b
  | str b => exact .str b
  | nilp => exact .nilp
  | nils => exact .nils
  | nilm => exact .nilm
  | nilf => exact .nilf
  | bptr id j h => omega
  | rptr id i j len h => omega
  | hsl id i m cc h => omega
  | map id h => omega
  | lit es full h ih => exact .lit es es full full (fun h => h) rfl fun i e u he hu => by rw [eq_of_get i e u he hu]; exact ih e (List.mem_of_getElem? he)
  | lptr e j h ih => exact .lptr e e j ih
  | agg es h ih => exact .agg es es rfl fun i e u he hu => by rw [eq_of_get i e u he hu]; exact ih e (List.mem_of_getElem? he)
  | tup es h ih => exact .tup es es rfl fun i e u he hu => by rw [eq_of_get i e u he hu]; exact ih e (List.mem_of_getElem? he)
  | fn f es h ih => exact .fn f es es rfl fun i e u he hu => by rw [eq_of_get i e u he hu]; exact ih e (List.mem_of_getElem? he)

/-- A result that is there as it is told. -/
theorem FinP.same {s' : LS} {u v : LV} (h : Refs 0 v) (e : u = v) : FinP v s' u := ⟨by subst e; exact Frz.same h⟩

theorem Holds.walkP {f : Nat} {fn : Func} {code : Code} {args : List LV} {v : LV} (hE : EnvOk P E) (hf : P.funcs[f]? = some fn) (hb : fn.body = some code)
    (hname : (fn.name == "runtime.NumGoroutine") = false) (hn : args.length ≤ fn.ntmps) (ha : ∀ u ∈ args, Refs 0 u) (hv : Refs 0 v)
    (h : wpX P E 0 code (endZ E fn.results.toList (FinP v)) ⟨fn.ntmps, slots 0 args⟩ LS.empty) (s : LS) : Holds P f args s v s := by
  refine Holds.lift (Holds.of_wpZ hE hf hb hname hn (FinP v) ?_ (wpX_sound hE _ _ _ _ h)) ha hv s
  rintro c0 c u u' hs hr hx hres hu ⟨hz⟩
  have hR : ∀ id, c.R id → id < 0 := by
    have : c0.s.next = 0 := by rw [hs]; rfl
    rw [← this]; exact hres
  have hV := View.empty c.s (fun k => k)
  have hd : ∀ id, Dead LS.empty (fun k => k) id := fun id k o h => by simp [LS.empty] at h
  have e : (fun _ => True) = Dead LS.empty (fun k => k) := by funext id; exact propext ⟨fun _ => hd id, fun _ => trivial⟩
  rw [e] at hz
  exact ⟨fun k => c.ι k, hr.view hV hR, hx.view (by rw [hs]; exact Nat.le_refl _) hV, VR.frz hr hV hR hz hu⟩

theorem refs_all {args : List LV} (h : LV.bares args = true) : ∀ u ∈ args, Refs 0 u := LV.bares_refs args h

/-! ### Values seen otherwise, part by part -/
inductive FL (s : LS) (n2 : Nat) (ρ : Nat → Nat) (dd : Nat → Prop) : List LV → List LV → Prop
  | nil : FL s n2 ρ dd [] []
  | cons {x y : LV} {r r' : List LV} (h : Frz s n2 ρ dd x y) (k : FL s n2 ρ dd r r') : FL s n2 ρ dd (x :: r) (y :: r')

section
variable {s : LS} {n2 : Nat} {ρ : Nat → Nat} {dd : Nat → Prop}
theorem FL.len {es us : List LV} (h : FL s n2 ρ dd es us) : us.length = es.length := by
  induction h with
  | nil => rfl
  | cons h k ih => simp [ih]
theorem FL.get {es us : List LV} (h : FL s n2 ρ dd es us) : ∀ (i : Nat) e u, es[i]? = some e → us[i]? = some u → Frz s n2 ρ dd e u := by
  induction h with
  | nil => intro i e u h; simp at h
  | cons h k ih =>
    intro i e u he hu
    cases i with
    | zero => simp at he hu; subst he; subst hu; exact h
    | succ i => simp at he hu; exact ih i e u he hu
theorem FL.same {es : List LV} (h : ∀ e ∈ es, Refs 0 e) : FL s n2 ρ dd es es := by
  induction es with
  | nil => exact .nil
  | cons x r ih => exact .cons (Frz.same (h x (by simp))) (ih fun e he => h e (by simp [he]))
theorem Frz.aggL {es us : List LV} (h : FL s n2 ρ dd es us) : Frz s n2 ρ dd (.agg es) (.agg us) := .agg es us h.len h.get
theorem Frz.tupL {es us : List LV} (h : FL s n2 ρ dd es us) : Frz s n2 ρ dd (.tup es) (.tup us) := .tup es us h.len h.get
theorem Frz.litL {es us : List LV} {full : Bool} (h : FL s n2 ρ dd es us) : Frz s n2 ρ dd (.lit es full) (.lit us false) := .lit es us full false (fun h => by cases h) h.len h.get
/-- A row that is no longer used. -/
theorem Frz.rowL {id n : Nat} {cc : Option Nat} {es us : List LV} {t : TypeId} (hg : s.get id = some (.row es t false)) (hd : dd id) (hn : n = us.length) (h : FL s n2 ρ dd (es.take n) us) :
    Frz s n2 ρ dd (.hsl id 0 n cc) (.lit us false) := by
  refine .cold id 0 n cc es t us false (fun h => by cases h) hg hd hn.symm fun j e u he hu => h.get j e u ?_ hu
  have : j < n := by rw [hn]; exact lt_len hu
  rw [List.getElem?_take, if_pos this]
  simpa using he
end

/-- A heap of one variable. -/
def LS.one (o : LObj) : LS := ⟨fun j => if j = 0 then some o else none, 1⟩

theorem LS.upd_one (o o' : LObj) : (LS.one o).upd 0 o' = LS.one o' := by
  unfold LS.one LS.upd
  congr 1
  funext j
  by_cases h : j = 0 <;> simp [h]

/-- Of a heap that has more, the one variable alone. -/
theorem View.one {s' : LS} {v u : LV} {t : TypeId} (hg : s'.get 0 = some (.box v t)) (h : Frz s' 1 (fun k => k) (Dead (LS.one (.box u t)) (fun k => k)) v u) : View 1 s' (LS.one (.box u t)) (fun k => k) := by
  refine ⟨Nat.le_refl _, fun k _ => rfl, fun k k' o o' h h' e => e, fun k o2 hk => ?_⟩
  simp only [LS.one] at hk
  split at hk
  · rename_i h0
    subst h0
    injection hk with hk
    subst hk
    exact ⟨Nat.one_pos, _, hg, rfl, h⟩
  · cases hk

/-- The end of a function over a heap of one variable. -/
structure FinO (u : LV) (t : TypeId) (v : LV) (s' : LS) (w : LV) : Prop where
  of ::
  ex : ∃ u0, s'.get 0 = some (.box u0 t) ∧ Frz s' 1 (fun k => k) (fun id => id ≠ 0) u0 u ∧ Frz s' 1 (fun k => k) (fun id => id ≠ 0) w v

theorem Holds.walkO {f : Nat} {fn : Func} {code : Code} {args : List LV} {u0 u v : LV} {t : TypeId} (hE : EnvOk P E) (hf : P.funcs[f]? = some fn) (hb : fn.body = some code)
    (hname : (fn.name == "runtime.NumGoroutine") = false) (hn : args.length ≤ fn.ntmps)
    (h : wpX P E 1 code (endZ E fn.results.toList (FinO u t v)) ⟨fn.ntmps, slots 0 args⟩ (LS.one (.box u0 t))) : Holds P f args (LS.one (.box u0 t)) v (LS.one (.box u t)) := by
  refine Holds.of_wpZ hE hf hb hname hn (FinO u t v) ?_ (wpX_sound hE _ _ _ _ h)
  rintro c0 c w u' hs hr hx hres hu ⟨u1, hg, h1, h2⟩
  have hR : ∀ id, c.R id → id < 1 := by
    have : c0.s.next = 1 := by rw [hs]; rfl
    rw [← this]; exact hres
  have e : (fun id => id ≠ 0) = Dead (LS.one (.box u t)) (fun k => k) := by
    funext id
    refine propext ⟨fun hn k o hk hid => ?_, fun hd h0 => ?_⟩
    · simp only [LS.one] at hk
      split at hk
      · rename_i h0; subst h0; exact hn hid.symm
      · cases hk
    · subst h0
      exact hd 0 (.box u t) (by simp [LS.one]) rfl
  rw [e] at h1 h2
  have hV := View.one hg h1
  exact ⟨fun k => c.ι k, hr.view hV hR, hx.view (by rw [hs]; exact Nat.le_refl _) hV, VR.frz hr hV hR h2 hu⟩

/-- A contract over a heap of one variable holds over any that has it. -/
theorem Holds.one {f : Nat} {args : List LV} {v u u' : LV} {t : TypeId} (h : Holds P f (.bptr 0 0 :: args) (LS.one (.box u t)) v (LS.one (.box u' t))) (ha : ∀ x ∈ args, Refs 0 x) (hv : Refs 0 v) (hu : Refs 0 u) (hu' : Refs 0 u')
    (s : LS) (id : Nat) (hg : s.get id = some (.box u t)) : Holds P f (.bptr id 0 :: args) s v (s.upd id (.box u' t)) := by
  refine ⟨h.1, ?_⟩
  intro X R ι w args' hr hl hvv
  have hid := hr.lt id _ hg
  have F : Framed (LS.one (.box u t)) (LS.one (.box u' t)) s (s.upd id (.box u' t)) (fun _ => id) (fun _ => id) := by
    refine ⟨?_, Nat.le_refl _, fun k _ => hid, fun k k' hk hk' _ => ?_, fun k _ => rfl, fun k h1 h2 => ?_, ?_, ⟨?_, ?_⟩, ⟨?_, ?_⟩, ?_, ?_⟩
    · intro k o hk
      simp only [LS.one] at hk ⊢
      split at hk
      · omega
      · cases hk
    · have h1 : k < 1 := hk
      have h2 : k' < 1 := hk'
      omega
    · have h3 : 1 ≤ k := h1
      have h4 : k < 1 := h2
      omega
    · show s.next = s.next + (1 - 1); omega
    · intro k o _ hk
      simp only [LS.one] at hk
      split at hk
      · injection hk with hk; subst hk; exact ⟨_, hg, rfl, Ren.closed hu⟩
      · cases hk
    · intro k o' hk ho
      rw [hg] at ho
      injection ho with ho; subst ho
      have : k = 0 := by have h1 : k < 1 := hk; omega
      subst this
      exact ⟨.box u t, by simp [LS.one], rfl, Ren.closed hu⟩
    · intro k o _ hk
      simp only [LS.one] at hk
      split at hk
      · injection hk with hk; subst hk; exact ⟨.box u' t, by simp [LS.upd], rfl, Ren.closed hu'⟩
      · cases hk
    · intro k o' hk ho
      simp [LS.upd] at ho
      subst ho
      have : k = 0 := by have h1 : k < 1 := hk; omega
      subst this
      exact ⟨.box u' t, by simp [LS.one], rfl, Ren.closed hu'⟩
    · intro j hj hn
      have : j ≠ id := fun e => hn 0 (by show 0 < 1; omega) e.symm
      simp [LS.upd, this]
    · intro j o hj
      show j < s.next
      by_cases e : j = id
      · rw [e]; exact hid
      · simp [LS.upd, e] at hj; exact hr.lt j o hj
  have ha' : RenL (· < (LS.one (.box u t)).next) (fun _ => id) (.bptr 0 0 :: args) (.bptr id 0 :: args) := by
    refine ⟨rfl, fun i e u he hu => ?_⟩
    cases i with
    | zero => simp at he hu; subst he; subst hu; exact .bptr 0 0 Nat.one_pos
    | succ i =>
      simp at he hu
      rw [he] at hu; injection hu with hu; subst hu
      exact Ren.closed (ha e (List.mem_of_getElem? he))
  exact (Holds.frame h F ha' (Ren.closed hv)).2 X R ι w args' hr hl hvv

/-! ### Rows that grow, round by round -/
def LS.two (o o' : LObj) : LS := ⟨fun j => if j = 0 then some o else if j = 1 then some o' else none, 2⟩

theorem View.row0 {s' : LS} {es us : List LV} {t : TypeId} {m : Nat} (hg : s'.get m = some (.row es t false)) (h : FL s' 1 (fun _ => m) (Dead (LS.one (.row us t false)) (fun _ => m)) es us) : View 0 s' (LS.one (.row us t false)) (fun _ => m) := by
  refine ⟨Nat.zero_le _, fun k h => by omega, fun k k' o o' h h' e => ?_, fun k o2 hk => ?_⟩
  · simp only [LS.one] at h h'
    split at h
    · split at h'
      · omega
      · cases h'
    · cases h
  · simp only [LS.one] at hk
    split at hk
    · rename_i h0
      subst h0
      injection hk with hk
      subst hk
      exact ⟨Nat.one_pos, _, hg, rfl, rfl, h.len, h.get⟩
    · cases hk

/-- Nothing of the heap is looked at. -/
theorem View.none (s' : LS) : View 0 s' LS.empty (fun k => k) := View.empty _ _

theorem View.row1 {s' : LS} {v u : LV} {tb t : TypeId} {es us : List LV} {m : Nat} (h0 : s'.get 0 = some (.box v tb)) (hg : s'.get m = some (.row es t false)) (hm : m ≠ 0)
    (hb : Frz s' 2 (fun k => if k = 0 then 0 else m) (Dead (LS.two (.box u tb) (.row us t false)) (fun k => if k = 0 then 0 else m)) v u)
    (h : FL s' 2 (fun k => if k = 0 then 0 else m) (Dead (LS.two (.box u tb) (.row us t false)) (fun k => if k = 0 then 0 else m)) es us) :
    View 1 s' (LS.two (.box u tb) (.row us t false)) (fun k => if k = 0 then 0 else m) := by
  refine ⟨by show 1 ≤ 2; omega, fun k h => by have : k = 0 := by omega
                                              simp [this], fun k k' o o' h h' e => ?_, fun k o2 hk => ?_⟩
  · have one : ∀ k o, (LS.two (.box u tb) (.row us t false)).get k = some o → k = 0 ∨ k = 1 := by
      intro k o h
      simp only [LS.two] at h
      split at h
      · exact .inl (by assumption)
      · split at h
        · exact .inr (by assumption)
        · cases h
    rcases one k o h with rfl | rfl <;> rcases one k' o' h' with rfl | rfl <;> simp at e ⊢ <;> omega
  · simp only [LS.two] at hk
    split at hk
    · rename_i h1
      subst h1
      injection hk with hk
      subst hk
      exact ⟨by show 0 < 2; omega, _, h0, rfl, hb⟩
    · split at hk
      · rename_i h1
        subst h1
        injection hk with hk
        subst hk
        exact ⟨by show 1 < 2; omega, _, hg, rfl, rfl, h.len, h.get⟩
      · cases hk

theorem WpR.nextV {n0 : Nat} {Q : Exit → Fr → LS → Prop} {A : Fr} {s : LS} {x : Code} {l : List (Nat × LV)} {s2 : LS} (ρ : Nat → Nat) (h : WpR P n0 x Q ⟨A.n, l⟩ s2) (hv : View n0 s s2 ρ) (hf : frFrz s s2.next ρ (Dead s2 ρ) A l) :
    Held (WpR P n0 x Q A s) := ⟨h.view ρ hv hf⟩

theorem bares_get {es : List LV} (h : LV.bares es = true) {s : LS} {n2 : Nat} {ρ : Nat → Nat} {dd : Nat → Prop} : FL s n2 ρ dd es es := FL.same (LV.bares_refs es h)

theorem FL.of_eq {es us : List LV} (e : es = us) (h : LV.bares us = true) {s : LS} {n2 : Nat} {ρ : Nat → Nat} {dd : Nat → Prop} : FL s n2 ρ dd es us := by
  subst e; exact bares_get h

theorem bares_map {α : Type} (f : α → LV) (hf : ∀ x, (f x).bare = true) : ∀ (l : List α), LV.bares (l.map f) = true
  | [] => rfl
  | x :: r => by simp only [List.map_cons, LV.bares, hf x, bares_map f hf r, Bool.and_self]

/-! ### A heap told by a list -/
def LS.of (l : List LObj) : LS := ⟨fun j => nth l j, l.length⟩

/-- What a heap has from a name on, seen otherwise. -/
inductive OL (s' : LS) (n2 : Nat) (ρ : Nat → Nat) (dd : Nat → Prop) : Nat → List LObj → Prop
  | nil (k : Nat) : OL s' n2 ρ dd k []
  | cons {k : Nat} {o o2 : LObj} {r : List LObj} (hg : s'.get (ρ k) = some o) (h : FrzO s' n2 ρ dd o o2) (t : OL s' n2 ρ dd (k + 1) r) : OL s' n2 ρ dd k (o2 :: r)

theorem OL.get {s' : LS} {n2 : Nat} {ρ : Nat → Nat} {dd : Nat → Prop} : ∀ {l : List LObj} {k : Nat}, OL s' n2 ρ dd k l → ∀ i o2, nth l i = some o2 → ∃ o, s'.get (ρ (k + i)) = some o ∧ FrzO s' n2 ρ dd o o2
  | [], k, _, i, o2, h => by cases h
  | x :: r, k, h, i, o2, hi => by
    cases h with
    | cons hg hf t =>
      cases i with
      | zero => injection hi with hi; subst hi; exact ⟨_, hg, hf⟩
      | succ i =>
        have := t.get i o2 hi
        rw [show k + 1 + i = k + (i + 1) by omega] at this
        exact this

theorem View.of {n0 : Nat} {s' : LS} {l : List LObj} (h0 : n0 ≤ l.length) (h : OL s' l.length (fun k => k) (Dead (LS.of l) (fun k => k)) 0 l) : View n0 s' (LS.of l) (fun k => k) := by
  refine ⟨h0, fun k _ => rfl, fun k k' o o' _ _ e => e, fun k o2 hk => ⟨?_, ?_⟩⟩
  · have hk : nth l k = some o2 := hk
    rw [nth_eq] at hk; exact lt_len hk
  · have := h.get k o2 hk
    rw [Nat.zero_add] at this; exact this

end
end Den
/- Arguments of a law: a slice of integers as it came in; arguments read again. -/
namespace Den
open Go

section
variable {H : Type} {enc : TypeId × Value → H} {P : Program} {W W' : World}
theorem trodAll_stays (hl : laidOutB P = true) {sp : Nat → Bool} : ∀ {ts : List TypeId} {vs : List Value} {ds : List (DataW H)} {ps : List MemPlace}, (∀ t ∈ ts, P.readableRec t = true ∧ t < P.types.size) →
    DataW.TrodAll enc P W 0 (fun _ => true) true ts vs ds ps → (∀ p ∈ ps, W.sameAt W' p) → (∀ p ∈ ps, sp p.block = true) → DataW.TrodAll enc P W' 0 sp true ts vs ds ps
  | [], vs, ds, ps, _, h, _, _ => by cases vs <;> cases ds <;> simp [DataW.TrodAll] at h ⊢; exact h
  | _ :: _, [], _, _, _, h, _, _ => by simp [DataW.TrodAll] at h
  | _ :: _, _ :: _, [], _, _, h, _, _ => by simp [DataW.TrodAll] at h
  | _ :: _, _ :: _, _ :: _, _, ht, ⟨p, q, h1, h2, e⟩, hs, hp =>
    ⟨p, q, WideElems.Trod_stays hl (ht _ (List.mem_cons.2 (.inl rfl))).1 (ht _ (List.mem_cons.2 (.inl rfl))).2 h1 (fun x hx => hs x (by rw [e]; exact List.mem_append_left _ hx)) (fun x hx => hp x (by rw [e]; exact List.mem_append_left _ hx)),
      trodAll_stays hl (fun t h => ht t (List.mem_cons.2 (.inr h))) h2 (fun x hx => hs x (by rw [e]; exact List.mem_append_right _ hx)) (fun x hx => hp x (by rw [e]; exact List.mem_append_right _ hx)), e⟩
end

def intsL (k : IntKind) (zs : List Int) : LV := .lit (zs.map fun z => .int k z) false

theorem VR.intsL {P : Program} {W : World} {k : IntKind} {a : Addr} {len cap : Nat} {zs : List Int} (hle : len ≤ cap) (hall : zs.length = cap) (hcell : ∀ i, i < zs.length → W.cell? (a.add i) = some (.int k (zs.getD i 0))) :
    VR P (bare W) (intsL k (zs.take len)) (.slice (some a) len cap) := by
  cases len with
  | zero => rw [List.take_zero]; exact .lit0 (some a) cap false (by simp) (by simp)
  | succ len =>
    obtain ⟨b, off, rfl, hc⟩ := ints_at hcell (by omega)
    have hl : (zs.take (len + 1)).length = len + 1 := by rw [List.length_take]; omega
    have hget : ∀ (i : Nat) (e : LV), ((zs.take (len + 1)).map fun z => LV.int k z)[i]? = some e → i < zs.length ∧ e = .int k (zs.getD i 0) := by
      intro i e h
      rw [List.getElem?_map] at h
      have hi : i < len + 1 := by
        apply Classical.byContradiction
        intro hn
        rw [List.getElem?_eq_none (by omega)] at h
        cases h
      rw [List.getElem?_take_of_lt hi] at h
      have hi' : i < zs.length := by omega
      rw [List.getElem?_eq_getElem hi'] at h
      injection h with h
      exact ⟨hi', by rw [← h, List.getD_eq_getElem?_getD, List.getElem?_eq_getElem hi']; rfl⟩
    refine .lit _ false b off cap 1 (fun i _ => .int k (zs.getD i 0)) (len + 1) (by rw [List.length_map, hl]) hle (by simp) (by rintro (h | ⟨id, o, h, _⟩); exact h; cases h) (World.block_lt_of_cell? W ⟨b, off + 0, none⟩ (hc 0 (by omega))) ?_ ?_ ?_
    · intro i e h; rw [(hget i e h).2]; rfl
    · intro i e j v h h2
      obtain ⟨h3, rfl⟩ := hget i e h
      have : j = 0 := by
        cases j with
        | zero => rfl
        | succ j => simp [LV.cells] at h2
      subst this
      simpa using hc i h3
    · intro i e j v h h2
      obtain ⟨h3, rfl⟩ := hget i e h
      cases j with
      | zero => simp [LV.cells] at h2; subst h2; exact .int _ _
      | succ j => simp [LV.cells] at h2
end Den
