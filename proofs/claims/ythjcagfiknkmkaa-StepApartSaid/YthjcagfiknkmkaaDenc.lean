/- The layer 'Den': logical values and heaps told of the model's; what an operation, a piece of code, a call does to them; the layer carried out. No condition. -/
import Derived.Test.YthjcagfiknkmkaaDenb
import Derived.Below
import Derived.ChangeSame
set_option linter.unusedSimpArgs false
set_option linter.unusedVariables false
/- Den, part 23: the layer carried out: tries, and the operations as functions. -/
set_option linter.unusedSimpArgs false
set_option linter.unusedVariables false
namespace Den
open Go

/-! ### Tries -/
inductive Tr (α : Type) where
  | e
  | n (v : Option α) (l r : Tr α)

def Tr.get {α : Type} : Tr α → Nat → Option α
  | .e, _ => none
  | .n v l r, k => match k with
    | 0 => v
    | k + 1 => match k % 2 with
      | 0 => l.get (k / 2)
      | _ + 1 => r.get (k / 2)

def Tr.put {α : Type} : Nat → Tr α → Nat → Option α → Tr α
  | 0, t, _, _ => t
  | f + 1, t, k, x => match t with
    | .e => match k with
      | 0 => .n x .e .e
      | k + 1 => match k % 2 with
        | 0 => .n none (Tr.put f .e (k / 2) x) .e
        | _ + 1 => .n none .e (Tr.put f .e (k / 2) x)
    | .n v l r => match k with
      | 0 => .n x l r
      | k + 1 => match k % 2 with
        | 0 => .n v (Tr.put f l (k / 2) x) r
        | _ + 1 => .n v l (Tr.put f r (k / 2) x)

theorem Tr.get_put {α : Type} (x : Option α) : ∀ (f : Nat) (t : Tr α) (k : Nat), k + 1 < 2 ^ f → ∀ j, (Tr.put f t k x).get j = if j = k then x else t.get j := by
  intro f
  induction f with
  | zero => intro t k h; simp at h
  | succ f ih =>
    intro t k h j
    rw [Nat.pow_succ] at h
    cases t with
    | e =>
      cases k with
      | zero =>
        cases j with
        | zero => simp [Tr.put, Tr.get]
        | succ j => simp only [Tr.put, Tr.get]; split <;> simp [Tr.get]
      | succ k =>
        have hk : k / 2 + 1 < 2 ^ f := by omega
        simp only [Tr.put]
        split
        · rename_i hm
          cases j with
          | zero => simp [Tr.get]
          | succ j =>
            simp only [Tr.get]
            split
            · rename_i hm2
              rw [ih .e (k / 2) hk]
              by_cases e : j = k
              · subst e; simp
              · have : j / 2 ≠ k / 2 := by omega
                simp [e, this, Tr.get]
            · rename_i m hm2
              have : j ≠ k := by intro e; subst e; omega
              simp [this, Tr.get]
        · rename_i m hm
          cases j with
          | zero => simp [Tr.get]
          | succ j =>
            simp only [Tr.get]
            split
            · rename_i hm2
              have : j ≠ k := by intro e; subst e; omega
              simp [this, Tr.get]
            · rename_i m2 hm2
              rw [ih .e (k / 2) hk]
              by_cases e : j = k
              · subst e; simp
              · have : j / 2 ≠ k / 2 := by omega
                simp [e, this, Tr.get]
    | n v l r =>
      cases k with
      | zero =>
        cases j with
        | zero => simp [Tr.put, Tr.get]
        | succ j => simp [Tr.put, Tr.get]
      | succ k =>
        have hk : k / 2 + 1 < 2 ^ f := by omega
        simp only [Tr.put]
        split
        · rename_i hm
          cases j with
          | zero => simp [Tr.get]
          | succ j =>
            simp only [Tr.get]
            split
            · rename_i hm2
              rw [ih l (k / 2) hk]
              by_cases e : j = k
              · subst e; simp
              · have : j / 2 ≠ k / 2 := by omega
                simp [e, this]
            · rename_i m hm2
              have : j ≠ k := by intro e; subst e; omega
              simp [this]
        · rename_i m hm
          cases j with
          | zero => simp [Tr.get]
          | succ j =>
            simp only [Tr.get]
            split
            · rename_i hm2
              have : j ≠ k := by intro e; subst e; omega
              simp [this]
            · rename_i m2 hm2
              rw [ih r (k / 2) hk]
              by_cases e : j = k
              · subst e; simp
              · have : j / 2 ≠ k / 2 := by omega
                simp [e, this]

/-! ### Heaps -/
structure Hp where
  t : Tr LObj
  next : Nat

def Hp.ls (H : Hp) : LS := ⟨H.t.get, H.next⟩
def Hp.empty : Hp := ⟨.e, 0⟩
theorem Hp.ls_empty : Hp.empty.ls = LS.empty := rfl

/-- A heap with another object; none, if the name is too great. -/
def Hp.upd (H : Hp) (id : Nat) (o : LObj) : Option Hp := match Nat.blt id 1000000 with
  | true => some ⟨H.t.put 21 id (some o), H.next⟩
  | false => none
def Hp.alloc (H : Hp) (o : LObj) : Option Hp := match Nat.blt H.next 1000000 with
  | true => some ⟨H.t.put 21 H.next (some o), Nat.succ H.next⟩
  | false => none

theorem Hp.upd_ls {H H' : Hp} {id : Nat} {o : LObj} (h : H.upd id o = some H') : H'.ls = H.ls.upd id o := by
  unfold Hp.upd at h
  split at h
  · rename_i hb
    have hlt := (blt_iff _ _).1 hb
    injection h with h; subst h
    simp only [Hp.ls, LS.upd]
    congr 1
    funext j
    exact Tr.get_put (some o) 21 H.t id (by omega) j
  · cases h

theorem Hp.alloc_ls {H H' : Hp} {o : LObj} (h : H.alloc o = some H') : H'.ls = H.ls.alloc o := by
  unfold Hp.alloc at h
  split at h
  · rename_i hb
    have hlt := (blt_iff _ _).1 hb
    injection h with h; subst h
    simp only [Hp.ls, LS.alloc]
    congr 1
    funext j
    exact Tr.get_put (some o) 21 H.t H.next (by omega) j
  · cases h

/-! ### Operations -/
def nz (b : Int) (v : LV) : Option LV := match b with
  | .ofNat 0 => none
  | _ => some v

def intB (op : BinOp) (k : IntKind) (a b : Int) : Option LV :=
  match op with
  | .add => some (.int k (k.wrap (a + b)))
  | .sub => some (.int k (k.wrap (a - b)))
  | .mul => some (.int k (k.wrap (a * b)))
  | .quo => nz b (.int k (k.wrap (a.tdiv b)))
  | .rem => nz b (.int k (a.tmod b))
  | .eql => some (.bool (a == b))
  | .neq => some (.bool (a != b))
  | .lss => some (.bool (decide (a < b)))
  | .leq => some (.bool (decide (a ≤ b)))
  | .gtr => some (.bool (decide (a > b)))
  | .geq => some (.bool (decide (a ≥ b)))
  | _ => none

theorem nz_some {b : Int} {v u : LV} (h : nz b v = some u) : b ≠ 0 ∧ v = u := by
  unfold nz at h
  split at h
  · cases h
  · rename_i hb
    injection h with h
    exact ⟨fun e => hb (by rw [e]; rfl), h⟩

theorem intB_ok {op : BinOp} {k : IntKind} {a b : Int} {v : LV} {K : LV → Prop} (h : intB op k a b = some v) (hK : K v) : intBin op k a b K := by
  cases op <;> simp only [intB] at h <;> simp only [intBin] <;> first
    | (injection h with h; subst h; exact hK)
    | (cases h; done)
    | (obtain ⟨h1, rfl⟩ := nz_some h; exact ⟨h1, hK⟩)

def strB (op : BinOp) (x y : List UInt8) : Option LV :=
  match op with
  | .add => match Nat.ble (x.length + y.length) 1000000 with
    | true => some (.str (x ++ y))
    | false => none
  | .eql => some (.bool (x == y))
  | .neq => some (.bool (!(x == y)))
  | .lss => some (.bool (Go.Op.bytesLess x y))
  | .leq => some (.bool (Go.Op.bytesLess x y || x == y))
  | .gtr => some (.bool (!(Go.Op.bytesLess x y || x == y)))
  | .geq => some (.bool (!(Go.Op.bytesLess x y)))
  | _ => none

theorem strB_ok {op : BinOp} {x y : List UInt8} {v : LV} {K : LV → Prop} (h : strB op x y = some v) (hK : K v) : strBin op x y K := by
  cases op <;> simp only [strB] at h <;> simp only [strBin] <;> first
    | (injection h with h; subst h; exact hK)
    | (cases h; done)
    | (split at h
       · rename_i hb
         have := Nat.le_of_ble_eq_true hb
         injection h with h; subst h
         refine ⟨?_, hK⟩
         have e : IntKind.i64.max = 9223372036854775807 := by decide
         rw [e]; omega
       · cases h)

end Den
/- Den, part 24: the layer carried out: the operations as functions, the rest. -/
set_option linter.unusedSimpArgs false
set_option linter.unusedVariables false
namespace Den
open Go

section
variable {L : TypeId → Option Lay} {K : LV → Prop} {v : LV}

def nilEqB (L : TypeId → Option Lay) (op : BinOp) (t : TypeId) (b : Bool) : Option LV :=
  match L t with
  | some l => match l.k with
    | .sl _ => match op with
      | .eql => some (.bool b)
      | .neq => some (.bool (!b))
      | _ => none
    | _ => none
  | none => none

theorem nilEqB_ok {op : BinOp} {t : TypeId} {b : Bool} (h : nilEqB L op t b = some v) (hK : K v) : nilEq L op t b K := by
  unfold nilEqB at h
  unfold nilEq
  cases hl : L t with
  | none => rw [hl] at h; cases h
  | some l =>
    rw [hl] at h
    simp only at h ⊢
    cases hk : l.k <;> rw [hk] at h <;> simp only at h ⊢ <;> first | (cases h; done) | skip
    cases op <;> simp only at h ⊢ <;> first | (injection h with h; subst h; exact hK) | (cases h; done)

def intsOf (k : IntKind) : List LV → Option (List Int)
  | [] => some []
  | x :: r => match x with
    | .int k' n => match decide (k' = k) with
      | true => match intsOf k r with
        | some l => some (n :: l)
        | none => none
      | false => none
    | _ => none

theorem intsOf_some {k : IntKind} : ∀ {xs : List LV} {l : List Int}, intsOf k xs = some l → xs = l.map (LV.int k)
  | [], l, h => by simp only [intsOf] at h; injection h with h; subst h; rfl
  | x :: r, l, h => by
    simp only [intsOf] at h
    split at h
    case h_2 => cases h
    split at h
    case h_2 => cases h
    rename_i hd
    split at h
    case h_2 => cases h
    rename_i l' hl'
    injection h with h; subst h
    rw [of_decide_eq_true hd, intsOf_some hl']
    rfl

def arrEqB (L : TypeId → Option Lay) (op : BinOp) (t : TypeId) (xs ys : List LV) : Option LV :=
  match L t with
  | some l => match l.k with
    | .arr n e => match L e with
      | some le => match le.k with
        | .int k => match intsOf k xs with
          | some as => match intsOf k ys with
            | some bs => match Nat.beq le.size 1 && Nat.beq as.length n && Nat.beq bs.length n with
              | true => match op with
                | .eql => some (.bool (as == bs))
                | .neq => some (.bool (!(as == bs)))
                | _ => none
              | false => none
            | none => none
          | none => none
        | _ => none
      | none => none
    | _ => none
  | none => none

theorem arrEqB_ok {op : BinOp} {t : TypeId} {xs ys : List LV} (h : arrEqB L op t xs ys = some v) (hK : K v) : arrEq L op t xs ys K := by
  unfold arrEqB at h
  unfold arrEq
  cases hl : L t with
  | none => rw [hl] at h; cases h
  | some l =>
    rw [hl] at h
    simp only at h ⊢
    cases hk : l.k <;> rw [hk] at h <;> simp only at h ⊢ <;> first | (cases h; done) | skip
    rename_i n e
    cases h2 : L e with
    | none => rw [h2] at h; cases h
    | some le =>
      rw [h2] at h
      simp only at h ⊢
      cases hk2 : le.k <;> rw [hk2] at h <;> simp only at h ⊢ <;> first | (cases h; done) | skip
      rename_i k
      cases h3 : intsOf k xs with
      | none => rw [h3] at h; cases h
      | some as =>
        cases h4 : intsOf k ys with
        | none => rw [h3, h4] at h; cases h
        | some bs =>
          rw [h3, h4] at h
          simp only at h
          cases hb : (Nat.beq le.size 1 && Nat.beq as.length n && Nat.beq bs.length n) with
          | false => rw [hb] at h; cases h
          | true =>
            rw [hb] at h
            simp only [Bool.and_eq_true] at hb
            refine ⟨Nat.eq_of_beq_eq_true hb.1.1, as, bs, intsOf_some h3, intsOf_some h4, Nat.eq_of_beq_eq_true hb.1.2, Nat.eq_of_beq_eq_true hb.2, ?_⟩
            cases op <;> simp only at h ⊢ <;> first | (injection h with h; subst h; exact hK) | (cases h; done)

def binB (L : TypeId → Option Lay) (op : BinOp) (t : TypeId) (x y : LV) : Option LV :=
  match x with
  | .int k a => match y with
    | .int k' b => match op with
      | .shl => none
      | .shr => match b with
        | .ofNat n => match decide (k = k') with
          | true => some (.int k (a.fdiv (2 ^ (min n k.bits))))
          | false => none
        | _ => none
      | _ => match decide (k = k') with
        | true => intB op k a b
        | false => none
    | _ => none
  | .str a => match y with
    | .str b => strB op a b
    | _ => none
  | .bool a => match y with
    | .bool b => match L t with
      | some l => match l.k with
        | .bool => match op with
          | .eql => some (.bool (a == b))
          | .neq => some (.bool (!(a == b)))
          | _ => none
        | _ => none
      | none => none
    | _ => none
  | .nils => match y with
    | .nils => nilEqB L op t true
    | _ => none
  | .hsl _ _ _ _ => match y with
    | .nils => nilEqB L op t false
    | _ => none
  | .lit l _ => match l with
    | _ :: _ => match y with
      | .nils => nilEqB L op t false
      | _ => none
    | [] => none
  | .agg xs => match y with
    | .agg ys => arrEqB L op t xs ys
    | _ => none
  | _ => none

theorem binB_ok {op : BinOp} {t : TypeId} {x y : LV} (h : binB L op t x y = some v) (hK : K v) : binL L op t x y K := by
  unfold binB at h
  unfold binL
  cases x <;> simp only at h <;> first | (cases h; done) | skip
  · -- bool
    cases y <;> simp only at h ⊢ <;> first | (cases h; done) | skip
    cases hl : L t with
    | none => rw [hl] at h; cases h
    | some l =>
      rw [hl] at h
      simp only at h ⊢
      cases hk : l.k <;> rw [hk] at h <;> simp only at h ⊢ <;> first | (cases h; done) | skip
      cases op <;> simp only at h ⊢ <;> first | (injection h with h; subst h; exact hK) | (cases h; done)
  · -- int
    cases y <;> simp only at h ⊢ <;> first | (cases h; done) | skip
    rename_i k a k' b
    cases op with
    | shl => cases h
    | shr =>
      simp only at h ⊢
      cases b with
      | negSucc m => cases h
      | ofNat m =>
        simp only at h
        cases hd : decide (k = k') with
        | false => rw [hd] at h; cases h
        | true =>
          rw [hd] at h
          injection h with h; subst h
          exact ⟨Int.natCast_nonneg m, hK⟩
    | _ =>
      simp only at h ⊢
      cases hd : decide (k = k') with
      | false => rw [hd] at h; cases h
      | true => rw [hd] at h; exact intB_ok h hK
  · cases y <;> simp only at h ⊢ <;> first | (cases h; done) | exact strB_ok h hK
  · cases y <;> simp only at h ⊢ <;> first | (cases h; done) | exact nilEqB_ok h hK
  · cases y <;> simp only at h ⊢ <;> first | (cases h; done) | exact nilEqB_ok h hK
  · rename_i l f
    cases l <;> simp only at h ⊢ <;> first | (cases h; done) | skip
    cases y <;> simp only at h ⊢ <;> first | (cases h; done) | exact nilEqB_ok h hK
  · cases y <;> simp only at h ⊢ <;> first | (cases h; done) | exact arrEqB_ok h hK

def unB (op : UnOp) (x : LV) : Option LV :=
  match op with
  | .not => match x with
    | .bool b => some (.bool (!b))
    | _ => none
  | .neg => match x with
    | .int k n => some (.int k (k.wrap (0 - n)))
    | _ => none
  | _ => none

theorem unB_ok {op : UnOp} {x : LV} (h : unB op x = some v) (hK : K v) : unL op x K := by
  unfold unB at h
  unfold unL
  cases op <;> simp only at h <;> first | (cases h; done) | skip
  all_goals cases x <;> simp only at h ⊢ <;> first | (injection h with h; subst h; exact hK) | (cases h; done)

def bytesOf : List LV → Option (List UInt8)
  | [] => some []
  | x :: r => match x with
    | .int k n => match k with
      | .u8 => match n with
        | .ofNat m => match Nat.beq (UInt8.ofNat m).toNat m with
          | true => match bytesOf r with
            | some l => some (UInt8.ofNat m :: l)
            | none => none
          | false => none
        | _ => none
      | _ => none
    | _ => none

theorem bytesOf_some : ∀ {es : List LV} {bs : List UInt8}, bytesOf es = some bs → es = bs.map (fun b => LV.int .u8 (b.toNat : Int))
  | [], bs, h => by simp only [bytesOf] at h; injection h with h; subst h; rfl
  | x :: r, bs, h => by
    simp only [bytesOf] at h
    split at h
    case h_2 => cases h
    split at h
    case h_2 => cases h
    split at h
    case h_2 => cases h
    split at h
    case h_2 => cases h
    rename_i hb
    split at h
    case h_2 => cases h
    rename_i l hl
    injection h with h; subst h
    rw [bytesOf_some hl]
    simp only [List.map_cons, Nat.eq_of_beq_eq_true hb]
    rfl

def bytesB (L : TypeId → Option Lay) (src : TypeId) (es : List LV) : Option LV :=
  match L src with
  | some ls => match ls.k with
    | .sl e => match L e with
      | some le => match le.k with
        | .int k => match k with
          | .u8 => match bytesOf es with
            | some bs => some (.str bs)
            | none => none
          | _ => none
        | _ => none
      | none => none
    | _ => none
  | none => none

theorem bytesB_ok {src : TypeId} {es : List LV} (h : bytesB L src es = some v) (hK : K v) : bytesL L src es K := by
  unfold bytesB at h
  unfold bytesL
  cases h1 : L src with
  | none => rw [h1] at h; cases h
  | some ls =>
    rw [h1] at h
    simp only at h ⊢
    cases hk : ls.k <;> rw [hk] at h <;> simp only at h ⊢ <;> first | (cases h; done) | skip
    rename_i e
    cases h2 : L e with
    | none => rw [h2] at h; cases h
    | some le =>
      rw [h2] at h
      simp only at h ⊢
      cases hk2 : le.k <;> rw [hk2] at h <;> simp only at h ⊢ <;> first | (cases h; done) | skip
      rename_i k
      cases k <;> simp only at h ⊢ <;> first | (cases h; done) | skip
      cases hb : bytesOf es with
      | none => rw [hb] at h; cases h
      | some bs =>
        rw [hb] at h
        injection h with h; subst h
        exact ⟨bs, bytesOf_some hb, hK⟩

def convB (L : TypeId → Option Lay) (src dst : TypeId) (x : LV) : Option LV :=
  match L src with
  | some _ => match L dst with
    | some ld => match ld.k with
      | .int k => match x with
        | .int _ n => some (.int k (k.wrap n))
        | .flt s b => match (s.decode b).toInt .zero with
          | some n => match decide (k.min ≤ n ∧ n ≤ k.max) with
            | true => some (.int k n)
            | false => none
          | none => none
        | _ => none
      | .flt k => match x with
        | .int _ n => some (.flt k (k.nearest n))
        | _ => none
      | .str => match x with
        | .str s => some (.str s)
        | .lit es _ => bytesB L src es
        | _ => none
      | _ => none
    | none => none
  | none => none

theorem convB_ok {src dst : TypeId} {x : LV} (h : convB L src dst x = some v) (hK : K v) : convL L src dst x K := by
  unfold convB at h
  unfold convL
  cases h1 : L src with
  | none => rw [h1] at h; cases h
  | some ls =>
    cases h2 : L dst with
    | none => rw [h1, h2] at h; cases h
    | some ld =>
      rw [h1, h2] at h
      simp only at h ⊢
      cases hk : ld.k <;> rw [hk] at h <;> simp only at h <;> first | (cases h; done) | skip
      all_goals cases x <;> simp only at h ⊢ <;> first | (injection h with h; subst h; exact hK) | exact bytesB_ok h hK | (cases h; done) | skip
      rename_i k s b
      cases hn : (s.decode b).toInt .zero with
      | none => rw [hn] at h; cases h
      | some n =>
        rw [hn] at h
        simp only at h
        cases hd : decide (k.min ≤ n ∧ n ≤ k.max) with
        | false => rw [hd] at h; cases h
        | true =>
          rw [hd] at h
          injection h with h; subst h
          obtain ⟨h3, h4⟩ := of_decide_eq_true hd
          exact ⟨n, rfl, h3, h4, hK⟩

def partB (L : TypeId → Option Lay) (t : TypeId) (v : LV) (j : Nat) : Option LV := partL L t v.cells j

def loadB (L : TypeId → Option Lay) (H : Hp) (t : TypeId) (p : LV) : Option LV :=
  match p with
  | .bptr id j => match H.t.get id with
    | some o => match o with
      | .box v _ => partL L t v.cells j
      | _ => none
    | none => none
  | .rptr id i j len => match H.t.get id with
    | some o => match o with
      | .row es _ g => match g with
        | false => match nth es i with
          | some v => partL L t v.cells j
          | none => none
        | true => none
      | _ => none
    | none => none
  | .lptr e j => partL L t e.cells j
  | _ => none

theorem oneOf_some {o : Option LV} (h : o = some v) (hK : K v) : oneOf o K := by subst h; exact hK

theorem loadB_ok {H : Hp} {t : TypeId} {p : LV} (h : loadB L H t p = some v) (hK : K v) : loadL L H.ls t p K := by
  unfold loadB at h
  unfold loadL
  cases p <;> simp only at h ⊢ <;> first | (cases h; done) | skip
  · rename_i id j
    have hg : H.ls.get id = H.t.get id := rfl
    rw [hg]
    cases hx : H.t.get id with
    | none => rw [hx] at h; cases h
    | some o =>
      rw [hx] at h
      cases o <;> simp only at h ⊢ <;> first | (cases h; done) | exact oneOf_some h hK
  · rename_i id i j len
    have hg : H.ls.get id = H.t.get id := rfl
    rw [hg]
    cases hx : H.t.get id with
    | none => rw [hx] at h; cases h
    | some o =>
      rw [hx] at h
      cases o <;> simp only at h ⊢ <;> first | (cases h; done) | skip
      rename_i es bt g
      cases g with
      | true => cases h
      | false =>
        simp only [nth_eq] at h
        cases hv : es[i]? with
        | none => rw [hv] at h; cases h
        | some u => rw [hv] at h; exact ⟨by simp, u, rfl, oneOf_some h hK⟩
  · exact oneOf_some h hK

def setNth {α : Type} : List α → Nat → α → List α
  | [], _, _ => []
  | _ :: r, 0, x => x :: r
  | y :: r, n + 1, x => y :: setNth r n x

theorem setNth_eq {α : Type} : ∀ (l : List α) (n : Nat) (x : α), setNth l n x = l.set n x
  | [], _, _ => rfl
  | _ :: _, 0, _ => rfl
  | y :: r, n + 1, x => by simp [setNth, setNth_eq r n x]

def storeB (L : TypeId → Option Lay) (H : Hp) (t : TypeId) (p v : LV) : Option Hp :=
  match L t with
  | some l => match Nat.beq v.cells.length l.size && v.cells.all LV.one with
    | true => match p with
      | .bptr id j => match H.t.get id with
        | some o => match o with
          | .box v0 bt => match Nat.ble (j + l.size) v0.cells.length with
            | true => match reL v0 (setL v0.cells j v.cells) with
              | some v1 => H.upd id (.box v1 bt)
              | none => none
            | false => none
          | _ => none
        | none => none
      | .rptr id i j len => match H.t.get id with
        | some o => match o with
          | .row es bt g => match g with
            | true => none
            | false => match nth es i with
              | some e => match Nat.ble (j + l.size) e.cells.length with
                | true => match reL e (setL e.cells j v.cells) with
                  | some e1 => H.upd id (.row (setNth es i e1) bt false)
                  | none => none
                | false => none
              | none => none
          | _ => none
        | none => none
      | _ => none
    | false => none
  | none => none

theorem storeB_ok {H H' : Hp} {t : TypeId} {p : LV} {K : LS → Prop} (h : storeB L H t p v = some H') (hK : K H'.ls) : storeL L H.ls t p v K := by
  unfold storeB at h
  unfold storeL
  cases hl : L t with
  | none => rw [hl] at h; cases h
  | some l =>
    rw [hl] at h
    simp only at h ⊢
    cases hc : (Nat.beq v.cells.length l.size && v.cells.all LV.one) with
    | false => rw [hc] at h; cases h
    | true =>
      rw [hc] at h
      simp only [cond_true] at h ⊢
      cases p <;> simp only at h ⊢ <;> first | (cases h; done) | skip
      · rename_i id j
        have hg : H.ls.get id = H.t.get id := rfl
        rw [hg]
        cases hx : H.t.get id with
        | none => rw [hx] at h; cases h
        | some o =>
          rw [hx] at h
          cases o <;> simp only at h ⊢ <;> first | (cases h; done) | skip
          rename_i v0 bt
          cases hb : Nat.ble (j + l.size) v0.cells.length with
          | false => rw [hb] at h; cases h
          | true =>
            rw [hb] at h
            simp only [cond_true] at h ⊢
            cases hr : reL v0 (setL v0.cells j v.cells) with
            | none => rw [hr] at h; cases h
            | some v1 =>
              rw [hr] at h
              simp only at h ⊢
              rw [← Hp.upd_ls h]; exact hK
      · rename_i id i j len
        have hg : H.ls.get id = H.t.get id := rfl
        rw [hg]
        cases hx : H.t.get id with
        | none => rw [hx] at h; cases h
        | some o =>
          rw [hx] at h
          cases o <;> simp only at h ⊢ <;> first | (cases h; done) | skip
          rename_i es bt g
          cases g with
          | true => cases h
          | false =>
            simp only [nth_eq] at h
            cases hv : es[i]? with
            | none => rw [hv] at h; cases h
            | some e =>
              rw [hv] at h
              simp only at h
              cases hb : Nat.ble (j + l.size) e.cells.length with
              | false => rw [hb] at h; cases h
              | true =>
                rw [hb] at h
                simp only at h
                cases hr : reL e (setL e.cells j v.cells) with
                | none => rw [hr] at h; cases h
                | some e1 =>
                  rw [hr] at h
                  simp only at h
                  refine ⟨by simp, e, rfl, Nat.le_of_ble_eq_true hb, e1, hr, ?_⟩
                  rw [← setNth_eq, ← Hp.upd_ls h]; exact hK

def fieldAddrB (L : TypeId → Option Lay) (t : TypeId) (p : LV) (f : Nat) : Option LV :=
  match L t with
  | some l => match l.k with
    | .st fs => match nth fs f with
      | some (off, ft) => match L ft with
        | some lf => match lf.size with
          | 0 => none
          | _ + 1 => match p with
            | .bptr id j => some (.bptr id (j + off))
            | .rptr id i j len => some (.rptr id i (j + off) len)
            | .lptr e j => some (.lptr e (j + off))
            | _ => none
        | none => none
      | none => none
    | _ => none
  | none => none

theorem fieldAddrB_ok {t : TypeId} {p : LV} {f : Nat} (h : fieldAddrB L t p f = some v) (hK : K v) : fieldAddrL L t p f K := by
  unfold fieldAddrB at h
  unfold fieldAddrL
  cases h1 : L t with
  | none => rw [h1] at h; cases h
  | some l =>
    rw [h1] at h
    simp only at h ⊢
    cases hk : l.k <;> rw [hk] at h <;> simp only at h ⊢ <;> first | (cases h; done) | skip
    rename_i fs
    cases h2 : nth fs f with
    | none => rw [h2] at h; cases h
    | some q =>
      rw [h2] at h
      simp only at h ⊢
      cases h3 : L q.2 with
      | none => rw [h3] at h; cases h
      | some lf =>
        rw [h3] at h
        simp only at h ⊢
        cases h4 : lf.size with
        | zero => rw [h4] at h; cases h
        | succ n =>
          rw [h4] at h
          cases p <;> simp only at h ⊢ <;> first | (injection h with h; subst h; exact hK) | (cases h; done)

end
end Den
/- Den, part 25: the layer carried out: slices, builds, builtins. -/
set_option linter.unusedSimpArgs false
set_option linter.unusedVariables false
namespace Den
open Go

section
variable {L : TypeId → Option Lay} {K : LV → Prop} {v : LV}

/-- A number that is an index. -/
def asIx (n : Int) : Option Nat := match n with
  | .ofNat m => some m
  | .negSucc _ => none

theorem asIx_some {n : Int} {m : Nat} (h : asIx n = some m) : n = (m : Int) := by
  cases n with
  | ofNat k => simp [asIx] at h; subst h; rfl
  | negSucc k => cases h

def indexAddrB (L : TypeId → Option Lay) (H : Hp) (t : TypeId) (x ix : LV) : Option LV :=
  match ix with
  | .int _ n => match asIx n with
    | some n => match L t with
      | some l => match l.k with
        | .sl e => match L e with
          | some le => match x with
            | .lit es _ => match nth es n with
              | some v => match Nat.beq v.cells.length le.size with
                | true => some (.lptr v 0)
                | false => none
              | none => none
            | .hsl id i0 m _ => match H.t.get id with
              | some o => match o with
                | .row _ bt _ => match Nat.beq bt e && Nat.blt n m with
                  | true => some (.rptr id (i0 + n) 0 (i0 + m))
                  | false => none
                | _ => none
              | none => none
            | _ => none
          | none => none
        | .arr len e => match L e with
          | some le => match Nat.blt n len with
            | true => match x with
              | .bptr id j => some (.bptr id (j + n * le.size))
              | .rptr id i j m => some (.rptr id i (j + n * le.size) m)
              | .lptr v j => some (.lptr v (j + n * le.size))
              | _ => none
            | false => none
          | none => none
        | _ => none
      | none => none
    | none => none
  | _ => none

theorem indexAddrB_ok {H : Hp} {t : TypeId} {x ix : LV} (h : indexAddrB L H t x ix = some v) (hK : K v) : indexAddrL L H.ls t x ix K := by
  unfold indexAddrB at h
  unfold indexAddrL
  cases ix <;> simp only at h ⊢ <;> first | (cases h; done) | skip
  rename_i k n
  cases hn : asIx n with
  | none => rw [hn] at h; cases h
  | some m =>
    rw [hn] at h
    have := asIx_some hn
    subst this
    simp only at h
    cases h1 : L t with
    | none => rw [h1] at h; cases h
    | some l =>
      rw [h1] at h
      simp only at h ⊢
      cases hk : l.k <;> rw [hk] at h <;> simp only at h ⊢ <;> first | (cases h; done) | skip
      · rename_i e
        cases h2 : L e with
        | none => rw [h2] at h; cases h
        | some le =>
          rw [h2] at h
          cases x <;> simp only at h ⊢ <;> first | (cases h; done) | skip
          · rename_i id i0 mm cc
            have hg : H.ls.get id = H.t.get id := rfl
            rw [hg]
            cases hx : H.t.get id with
            | none => rw [hx] at h; cases h
            | some o =>
              rw [hx] at h
              cases o <;> simp only at h ⊢ <;> first | (cases h; done) | skip
              rename_i es bt g
              cases hb : (Nat.beq bt e && Nat.blt m mm) with
              | false => rw [hb] at h; cases h
              | true =>
                rw [hb] at h
                simp only [Bool.and_eq_true] at hb
                rw [hb.1]
                have := (blt_iff _ _).1 hb.2
                injection h with h; subst h
                exact ⟨by omega, by omega, by simpa using hK⟩
          · rename_i es full
            rw [nth_eq] at h
            cases hv : es[m]? with
            | none => rw [hv] at h; cases h
            | some u =>
              rw [hv] at h
              simp only at h
              cases hb : Nat.beq u.cells.length le.size with
              | false => rw [hb] at h; cases h
              | true =>
                rw [hb] at h
                injection h with h; subst h
                exact ⟨by omega, u, by simpa using hv, Nat.eq_of_beq_eq_true hb, hK⟩
      · rename_i len e
        cases h2 : L e with
        | none => rw [h2] at h; cases h
        | some le =>
          rw [h2] at h
          simp only at h ⊢
          cases hb : Nat.blt m len with
          | false => rw [hb] at h; cases h
          | true =>
            rw [hb] at h
            have := (blt_iff _ _).1 hb
            cases x <;> simp only at h ⊢ <;> first | (cases h; done) | (injection h with h; subst h; exact ⟨by omega, by omega, by simpa using hK⟩)

def fieldB (L : TypeId → Option Lay) (t : TypeId) (x : LV) (f : Nat) : Option LV :=
  match L t with
  | some l => match l.k with
    | .st fs => match nth fs f with
      | some (off, ft) => match x with
        | .agg cs => partL L ft cs off
        | _ => none
      | none => none
    | _ => none
  | none => none

theorem fieldB_ok {t : TypeId} {x : LV} {f : Nat} (h : fieldB L t x f = some v) (hK : K v) : fieldL L t x f K := by
  unfold fieldB at h
  unfold fieldL
  cases h1 : L t with
  | none => rw [h1] at h; cases h
  | some l =>
    rw [h1] at h
    simp only at h ⊢
    cases hk : l.k <;> rw [hk] at h <;> simp only at h ⊢ <;> first | (cases h; done) | skip
    rename_i fs
    cases h2 : nth fs f with
    | none => rw [h2] at h; cases h
    | some q =>
      rw [h2] at h
      cases x <;> simp only at h ⊢ <;> first | (cases h; done) | exact oneOf_some h hK

def extractB (x : LV) (i : Nat) : Option LV := match x with
  | .tup vs => nth vs i
  | _ => none

theorem extractB_ok {x : LV} {i : Nat} (h : extractB x i = some v) (hK : K v) : extractL x i K := by
  unfold extractB at h
  unfold extractL
  cases x <;> simp only at h ⊢ <;> first | (cases h; done) | exact oneOf_some h hK

def lenB (L : TypeId → Option Lay) (t : TypeId) (x : LV) : Option LV :=
  match L t with
  | some l => match l.k with
    | .str => match x with
      | .str s => some (.int .i64 (Int.ofNat s.length))
      | _ => none
    | .sl _ => match x with
      | .lit es _ => some (.int .i64 (Int.ofNat es.length))
      | .hsl _ _ n _ => some (.int .i64 (Int.ofNat n))
      | .nils => some (.int .i64 (Int.ofNat 0))
      | _ => none
    | .arr n _ => some (.int .i64 (Int.ofNat n))
    | _ => none
  | none => none

theorem lenB_ok {t : TypeId} {x : LV} (h : lenB L t x = some v) (hK : K v) : lenL L t x K := by
  unfold lenB at h
  unfold lenL
  cases h1 : L t with
  | none => rw [h1] at h; cases h
  | some l =>
    rw [h1] at h
    simp only at h ⊢
    cases hk : l.k <;> rw [hk] at h <;> simp only at h ⊢ <;> first | (cases h; done) | (injection h with h; subst h; exact hK) | skip
    all_goals cases x <;> simp only at h ⊢ <;> first | (injection h with h; subst h; exact hK) | (cases h; done)

def indexB (L : TypeId → Option Lay) (t : TypeId) (x i : LV) : Option LV :=
  match i with
  | .int _ n => match asIx n with
    | some n => match L t with
      | some l => match l.k with
        | .arr len e => match x with
          | .agg cs => match L e with
            | some le => match Nat.blt n len with
              | true => partL L e cs (n * le.size)
              | false => none
            | none => none
          | _ => none
        | .str => match x with
          | .str s => match nth s n with
            | some b => some (.int .u8 (Int.ofNat b.toNat))
            | none => none
          | _ => none
        | _ => none
      | none => none
    | none => none
  | _ => none

theorem indexB_ok {t : TypeId} {x i : LV} (h : indexB L t x i = some v) (hK : K v) : indexL L t x i K := by
  unfold indexB at h
  unfold indexL
  cases i <;> simp only at h ⊢ <;> first | (cases h; done) | skip
  rename_i k n
  cases hn : asIx n with
  | none => rw [hn] at h; cases h
  | some m =>
    rw [hn] at h
    have := asIx_some hn
    subst this
    simp only at h
    cases h1 : L t with
    | none => rw [h1] at h; cases h
    | some l =>
      rw [h1] at h
      simp only at h ⊢
      cases hk : l.k <;> rw [hk] at h <;> simp only at h ⊢ <;> first | (cases h; done) | skip
      · cases x <;> simp only at h ⊢ <;> first | (cases h; done) | skip
        rename_i s
        rw [nth_eq] at h
        cases hb : s[m]? with
        | none => rw [hb] at h; cases h
        | some b =>
          rw [hb] at h
          injection h with h; subst h
          exact ⟨by omega, b, by simpa using hb, hK⟩
      · rename_i len e
        cases x <;> simp only at h ⊢ <;> first | (cases h; done) | skip
        rename_i cs
        cases h2 : L e with
        | none => rw [h2] at h; cases h
        | some le =>
          rw [h2] at h
          simp only at h ⊢
          cases hb : Nat.blt m len with
          | false => rw [hb] at h; cases h
          | true =>
            rw [hb] at h
            have := (blt_iff _ _).1 hb
            exact ⟨by omega, by omega, v, by simpa using h, hK⟩

end
end Den
/- Den, part 26: the layer carried out: cuts, new rows, appends. -/
set_option linter.unusedSimpArgs false
set_option linter.unusedVariables false
namespace Den
open Go

section
variable {L : TypeId → Option Lay} {v : LV}

/-- A bound of a cut. -/
def optN (o : Option LV) (d : Nat) : Option Nat := match o with
  | none => some d
  | some x => match x with
    | .int _ n => asIx n
    | _ => none

theorem optN_some {o : Option LV} {d n : Nat} (h : optN o d = some n) : optI o d = some (n : Int) := by
  unfold optN at h
  unfold optI
  cases o with
  | none => injection h with h; subst h; rfl
  | some x =>
    cases x <;> simp only at h <;> first | (cases h; done) | skip
    rw [asIx_some h]

/-- Is a third bound just the second? -/
def mxOk (mx : Option LV) (h : Nat) : Bool := match mx with
  | none => true
  | some x => match x with
    | .int _ m => match asIx m with
      | some m => Nat.beq m h
      | none => false
    | _ => false

def cutCap (cc : Option Nat) (l : Nat) : Option Nat := match cc with
  | some k => some (k - l)
  | none => none

def lensOk (es : List LV) (sz : Nat) : Bool := es.all fun u => Nat.beq u.cells.length sz

theorem lensOk_spec {es : List LV} {sz : Nat} (h : lensOk es sz = true) : ∀ u ∈ es, u.cells.length = sz := fun u hu => Nat.eq_of_beq_eq_true (List.all_eq_true.1 h u hu)

def sliceB (L : TypeId → Option Lay) (H : Hp) (t : TypeId) (x : LV) (lo hi mx : Option LV) : Option LV :=
  match L t with
  | some lt => match lt.k with
    | .str => match x with
      | .str b => match mx with
        | none => match optN lo 0 with
          | some l => match optN hi b.length with
            | some h => match Nat.ble l h && Nat.ble h b.length with
              | true => some (.str ((b.take h).drop l))
              | false => none
            | none => none
          | none => none
        | some _ => none
      | _ => none
    | .sl e => match L e with
      | some le => match x with
        | .nils => match optN lo 0 with
          | some l => match optN hi 0 with
            | some h => match Nat.beq l 0 && Nat.beq h 0 && mxOk mx 0 with
              | true => some .nils
              | false => none
            | none => none
          | none => none
        | .lit es _ => match optN lo 0 with
          | some l => match optN hi es.length with
            | some h => match Nat.ble l h && Nat.ble h es.length && mxOk mx h && lensOk es le.size with
              | true => some (.lit ((es.take h).drop l) mx.isSome)
              | false => none
            | none => none
          | none => none
        | .hsl id i n cc => match H.t.get id with
          | some o => match o with
            | .row es bt g => match optN lo 0 with
              | some l => match optN hi n with
                | some h => match Nat.ble l h && Nat.ble h n && mxOk mx h && Nat.beq bt e && !g with
                  | true => match mx with
                    | none => some (.hsl id (i + l) (h - l) (cutCap cc l))
                    | some _ => some (.hsl id (i + l) (h - l) (some (h - l)))
                  | false => none
                | none => none
              | none => none
            | _ => none
          | none => none
        | _ => none
      | none => none
    | _ => none
  | none => none

theorem sliceB_ok {H : Hp} {t : TypeId} {x : LV} {lo hi mx : Option LV} {K : LV → Prop} (h : sliceB L H t x lo hi mx = some v) (hK : K v) : sliceL L H.ls t x lo hi mx K := by
  unfold sliceB at h
  unfold sliceL
  cases h1 : L t with
  | none => rw [h1] at h; cases h
  | some lt =>
    rw [h1] at h
    simp only at h ⊢
    cases hk : lt.k <;> rw [hk] at h <;> simp only at h ⊢ <;> first | (cases h; done) | skip
    · cases x <;> simp only at h ⊢ <;> first | (cases h; done) | skip
      rename_i b
      cases mx with
      | some m => cases h
      | none =>
        simp only at h ⊢
        cases hl : optN lo 0 with
        | none => rw [hl] at h; cases h
        | some l =>
          cases hh : optN hi b.length with
          | none => rw [hl, hh] at h; cases h
          | some u =>
            rw [hl, hh] at h
            have e1 := optN_some hl
            have e2 := optN_some hh
            rw [show ((0 : Nat) : Int) = 0 from rfl] at e1
            rw [e1, e2]
            simp only at h ⊢
            cases hb : (Nat.ble l u && Nat.ble u b.length) with
            | false => rw [hb] at h; cases h
            | true =>
              rw [hb] at h
              simp only [Bool.and_eq_true] at hb
              have b1 := Nat.le_of_ble_eq_true hb.1
              have b2 := Nat.le_of_ble_eq_true hb.2
              injection h with h; subst h
              exact ⟨by omega, by omega, by omega, by simpa using hK⟩
    · rename_i e
      cases h2 : L e with
      | none => rw [h2] at h; cases h
      | some le =>
        rw [h2] at h
        simp only at h ⊢
        cases x <;> simp only at h ⊢ <;> first | (cases h; done) | skip
        · cases hl : optN lo 0 with
          | none => rw [hl] at h; cases h
          | some l =>
            cases hh : optN hi 0 with
            | none => rw [hl, hh] at h; cases h
            | some u =>
              rw [hl, hh] at h
              have e1 := optN_some hl
              have e2 := optN_some hh
              rw [show ((0 : Nat) : Int) = 0 from rfl] at e1 e2
              rw [e1, e2]
              simp only at h ⊢
              cases hb : (Nat.beq l 0 && Nat.beq u 0 && mxOk mx 0) with
              | false => rw [hb] at h; cases h
              | true =>
                rw [hb] at h
                simp only [Bool.and_eq_true] at hb
                have b1 := Nat.eq_of_beq_eq_true hb.1.1
                have b2 := Nat.eq_of_beq_eq_true hb.1.2
                have b3 := hb.2
                injection h with h; subst h
                refine ⟨?_, by omega, by omega, hK⟩
                unfold mxNil
                cases mx with
                | none => trivial
                | some m =>
                  simp only [mxOk] at b3
                  cases m <;> simp only at b3 <;> first | (cases b3; done) | skip
                  rename_i km mm
                  cases hm : asIx mm with
                  | none => rw [hm] at b3; cases b3
                  | some m' =>
                    rw [hm] at b3
                    have := asIx_some hm
                    subst this
                    have b3 := Nat.eq_of_beq_eq_true b3
                    simp [b3]
        · rename_i id i n cc
          have hg : H.ls.get id = H.t.get id := rfl
          rw [hg]
          cases hx : H.t.get id with
          | none => rw [hx] at h; cases h
          | some o =>
            rw [hx] at h
            cases o <;> simp only at h ⊢ <;> first | (cases h; done) | skip
            rename_i es bt g
            cases hl : optN lo 0 with
            | none => rw [hl] at h; cases h
            | some l =>
              cases hh : optN hi n with
              | none => rw [hl, hh] at h; cases h
              | some u =>
                rw [hl, hh] at h
                have e1 := optN_some hl
                have e2 := optN_some hh
                rw [show ((0 : Nat) : Int) = 0 from rfl] at e1
                rw [e1, e2]
                simp only at h ⊢
                cases hb : (Nat.ble l u && Nat.ble u n && mxOk mx u && Nat.beq bt e && !g) with
                | false => rw [hb] at h; cases h
                | true =>
                  rw [hb] at h
                  simp only [Bool.and_eq_true, Bool.not_eq_true'] at hb
                  obtain ⟨⟨⟨⟨b1, b2⟩, b3⟩, b4⟩, rfl⟩ := hb
                  have b1 := Nat.le_of_ble_eq_true b1
                  have b2 := Nat.le_of_ble_eq_true b2
                  rw [b4]
                  cases mx with
                  | none =>
                    injection h with h; subst h
                    refine ⟨trivial, by simp, by omega, by omega, by omega, by simp, ?_⟩
                    have : cutCap cc l = cc.map (· - (l : Int).toNat) := by cases cc <;> simp [cutCap]
                    rw [← this]; simpa using hK
                  | some m =>
                    injection h with h; subst h
                    simp only [mxOk] at b3
                    cases m <;> simp only at b3 <;> first | (cases b3; done) | skip
                    rename_i km mm
                    cases hm : asIx mm with
                    | none => rw [hm] at b3; cases b3
                    | some m' =>
                      rw [hm] at b3
                      have := asIx_some hm
                      subst this
                      have b3 := Nat.eq_of_beq_eq_true b3
                      exact ⟨by simp [b3], trivial, by simp, by omega, by omega, by omega, by simp, by simpa using hK⟩
        · rename_i es full
          cases hl : optN lo 0 with
          | none => rw [hl] at h; cases h
          | some l =>
            cases hh : optN hi es.length with
            | none => rw [hl, hh] at h; cases h
            | some u =>
              rw [hl, hh] at h
              have e1 := optN_some hl
              have e2 := optN_some hh
              rw [show ((0 : Nat) : Int) = 0 from rfl] at e1
              rw [e1, e2]
              simp only at h ⊢
              cases hb : (Nat.ble l u && Nat.ble u es.length && mxOk mx u && lensOk es le.size) with
              | false => rw [hb] at h; cases h
              | true =>
                rw [hb] at h
                simp only [Bool.and_eq_true] at hb
                obtain ⟨⟨⟨b1, b2⟩, b3⟩, b4⟩ := hb
                have b1 := Nat.le_of_ble_eq_true b1
                have b2 := Nat.le_of_ble_eq_true b2
                have b4 := lensOk_spec b4
                injection h with h; subst h
                cases mx with
                | none => exact ⟨by omega, by omega, by omega, b4, by simpa using hK⟩
                | some m =>
                  simp only [mxOk] at b3
                  cases m <;> simp only at b3 <;> first | (cases b3; done) | skip
                  rename_i km mm
                  cases hm : asIx mm with
                  | none => rw [hm] at b3; cases b3
                  | some m' =>
                    rw [hm] at b3
                    have := asIx_some hm
                    subst this
                    have b3 := Nat.eq_of_beq_eq_true b3
                    exact ⟨by simp [b3], by omega, by omega, by omega, b4, by simpa using hK⟩

end
end Den
/- Den, part 27: the layer carried out: what makes, what grows, builtins, calls, an operation whole. -/
set_option linter.unusedSimpArgs false
set_option linter.unusedVariables false
namespace Den
open Go

section
variable {L : TypeId → Option Lay} {v : LV}

def buildB (L : TypeId → Option Lay) (t : TypeId) (ps : List (Nat × LV)) : Option LV :=
  match L t with
  | some l => match l.k with
    | .st fs => match placesL L fs with
      | some q => match fillL (nth q) l.zero.cells ps with
        | some r => some (.agg r)
        | none => none
      | none => none
    | .arr _ e => match L e with
      | some le => match fillL (fun i => some (i * le.size, le.size)) l.zero.cells ps with
        | some r => some (.agg r)
        | none => none
      | none => none
    | _ => none
  | none => none

theorem buildB_ok {t : TypeId} {ps : List (Nat × LV)} {K : LV → Prop} (h : buildB L t ps = some v) (hK : K v) : buildL L t ps K := by
  unfold buildB at h
  unfold buildL
  cases h1 : L t with
  | none => rw [h1] at h; cases h
  | some l =>
    rw [h1] at h
    simp only at h ⊢
    cases hk : l.k <;> rw [hk] at h <;> simp only at h ⊢ <;> first | (cases h; done) | skip
    · rename_i n e
      cases h2 : L e with
      | none => rw [h2] at h; cases h
      | some le =>
        rw [h2] at h
        simp only at h ⊢
        cases h3 : fillL (fun i => some (i * le.size, le.size)) l.zero.cells ps with
        | none => rw [h3] at h; cases h
        | some r => rw [h3] at h; injection h with h; subst h; exact hK
    · rename_i fs
      cases h2 : placesL L fs with
      | none => rw [h2] at h; cases h
      | some q =>
        rw [h2] at h
        simp only at h ⊢
        cases h3 : fillL (nth q) l.zero.cells ps with
        | none => rw [h3] at h; cases h
        | some r => rw [h3] at h; injection h with h; subst h; exact hK

def litB (L : TypeId → Option Lay) (t : TypeId) (n : Nat) (ps : List (Nat × LV)) : Option LV :=
  match L t with
  | some l => match l.k with
    | .sl e => match L e with
      | some le => match Nat.beq le.zero.cells.length le.size && Nat.ble (n * le.size) 16777216 && Nat.blt 0 le.size with
        | true => match setAll (List.replicate n le.zero) le.size ps with
          | some es => some (.lit es true)
          | none => none
        | false => none
      | none => none
    | _ => none
  | none => none

theorem litB_ok {t : TypeId} {n : Nat} {ps : List (Nat × LV)} {K : LV → Prop} (h : litB L t n ps = some v) (hK : K v) : litL L t n ps K := by
  unfold litB at h
  unfold litL
  cases h1 : L t with
  | none => rw [h1] at h; cases h
  | some l =>
    rw [h1] at h
    simp only at h ⊢
    cases hk : l.k <;> rw [hk] at h <;> simp only at h ⊢ <;> first | (cases h; done) | skip
    rename_i e
    cases h2 : L e with
    | none => rw [h2] at h; cases h
    | some le =>
      rw [h2] at h
      simp only at h ⊢
      cases hb : (Nat.beq le.zero.cells.length le.size && Nat.ble (n * le.size) 16777216 && Nat.blt 0 le.size) with
      | false => rw [hb] at h; cases h
      | true =>
        rw [hb] at h
        simp only [cond_true] at h ⊢
        cases h3 : setAll (List.replicate n le.zero) le.size ps with
        | none => rw [h3] at h; cases h
        | some es => rw [h3] at h; injection h with h; subst h; exact hK

/-- A value and a heap. -/
structure VH where
  v : LV
  H : Hp

def withH (v : LV) : Option Hp → Option VH
  | some H => some ⟨v, H⟩
  | none => none

theorem withH_some {v : LV} {o : Option Hp} {r : VH} (h : withH v o = some r) : ∃ H, o = some H ∧ r = ⟨v, H⟩ := by
  cases o with
  | none => cases h
  | some H => injection h with h; exact ⟨H, rfl, h.symm⟩

def allocB (L : TypeId → Option Lay) (H : Hp) (t : TypeId) : Option VH :=
  match L t with
  | some l => withH (.bptr H.next 0) (H.alloc (.box l.zero t))
  | none => none

theorem allocB_ok {H : Hp} {t : TypeId} {r : VH} {K : LV → LS → Prop} (h : allocB L H t = some r) (hK : K r.v r.H.ls) : allocL L H.ls t K := by
  unfold allocB at h
  unfold allocL
  cases h1 : L t with
  | none => rw [h1] at h; cases h
  | some l =>
    rw [h1] at h
    obtain ⟨H', h2, rfl⟩ := withH_some h
    simp only at hK ⊢
    rw [Hp.alloc_ls h2] at hK; exact hK

def makeSliceB (L : TypeId → Option Lay) (H : Hp) (t : TypeId) (x y : LV) : Option VH :=
  match x with
  | .int _ n => match y with
    | .int _ m => match asIx n with
      | some n => match asIx m with
        | some m => match L t with
          | some l => match l.k with
            | .sl e => match L e with
              | some le => match Nat.beq le.zero.cells.length le.size && Nat.beq n m && Nat.ble (le.bytes * n) 281474976710656 && Nat.ble n 1000000 with
                | true => withH (.hsl H.next 0 n (some n)) (H.alloc (.row (List.replicate n le.zero) e false))
                | false => none
              | none => none
            | _ => none
          | none => none
        | none => none
      | none => none
    | _ => none
  | _ => none

theorem makeSliceB_ok {H : Hp} {t : TypeId} {x y : LV} {r : VH} {K : LV → LS → Prop} (h : makeSliceB L H t x y = some r) (hK : K r.v r.H.ls) : makeSliceL L H.ls t x y K := by
  unfold makeSliceB at h
  unfold makeSliceL
  cases x <;> simp only at h <;> first | (cases h; done) | skip
  cases y <;> simp only at h ⊢ <;> first | (cases h; done) | skip
  rename_i k n k' m
  cases hn : asIx n with
  | none => rw [hn] at h; cases h
  | some n' =>
    cases hm : asIx m with
    | none => rw [hn, hm] at h; cases h
    | some m' =>
      rw [hn, hm] at h
      have e1 := asIx_some hn
      have e2 := asIx_some hm
      subst e1; subst e2
      simp only at h
      cases h1 : L t with
      | none => rw [h1] at h; cases h
      | some l =>
        rw [h1] at h
        simp only at h ⊢
        cases hk : l.k <;> rw [hk] at h <;> simp only at h ⊢ <;> first | (cases h; done) | skip
        rename_i e
        cases h2 : L e with
        | none => rw [h2] at h; cases h
        | some le =>
          rw [h2] at h
          simp only at h ⊢
          cases hb : (Nat.beq le.zero.cells.length le.size && Nat.beq n' m' && Nat.ble (le.bytes * n') 281474976710656 && Nat.ble n' 1000000) with
          | false => rw [hb] at h; cases h
          | true =>
            rw [hb] at h
            simp only [Bool.and_eq_true] at hb
            obtain ⟨⟨⟨b1, b2⟩, b3⟩, b4⟩ := hb
            have b2 := Nat.eq_of_beq_eq_true b2
            have b3 := Nat.le_of_ble_eq_true b3
            have b4 := Nat.le_of_ble_eq_true b4
            obtain ⟨H', h3, rfl⟩ := withH_some h
            rw [b1]
            subst b2
            refine ⟨rfl, Int.natCast_nonneg _, ?_, ?_, ?_⟩
            · rw [← Int.natCast_mul]; exact Int.ofNat_le.2 b3
            · have : (n' : Int) ≤ 1000000 := Int.ofNat_le.2 b4
              omega
            · simp only at hK
              rw [Hp.alloc_ls h3] at hK
              exact hK

/-- Do all elements lie flat? -/
def flatOk (es : List LV) (sz : Nat) : Bool := es.all fun u => Nat.beq u.cells.length sz && u.cells.all LV.one

theorem flatOk_spec {es : List LV} {sz : Nat} (h : flatOk es sz = true) : ∀ u ∈ es, FlatE sz u := fun u hu => by
  have := List.all_eq_true.1 h u hu
  simp only [Bool.and_eq_true] at this
  exact ⟨Nat.eq_of_beq_eq_true this.1, this.2⟩

def srcB (H : Hp) (e : TypeId) (x : LV) : Option (List LV) :=
  match x with
  | .nils => some []
  | .lit es _ => some es
  | .hsl id i m _ => match H.t.get id with
    | some o => match o with
      | .row es bt g => match Nat.beq bt e && !g with
        | true => some ((es.drop i).take m)
        | false => none
      | _ => none
    | none => match m with
      | 0 => some []
      | _ + 1 => none
  | _ => none

theorem srcB_ok {H : Hp} {e : TypeId} {x : LV} {l : List LV} {K : List LV → Prop} (h : srcB H e x = some l) (hK : K l) : srcL H.ls e x K := by
  unfold srcB at h
  unfold srcL
  cases x <;> simp only at h ⊢ <;> first | (cases h; done) | (injection h with h; subst h; exact hK) | skip
  rename_i id i m cc
  have hg : H.ls.get id = H.t.get id := rfl
  rw [hg]
  cases hx : H.t.get id with
  | none =>
    rw [hx] at h
    cases m with
    | zero => injection h with h; subst h; exact ⟨rfl, hK⟩
    | succ m => cases h
  | some o =>
    rw [hx] at h
    cases o <;> simp only at h ⊢ <;> first | (cases h; done) | skip
    rename_i es bt g
    cases hb : (Nat.beq bt e && !g) with
    | false => rw [hb] at h; cases h
    | true =>
      rw [hb] at h
      simp only [Bool.and_eq_true, Bool.not_eq_true'] at hb
      obtain ⟨hb, rfl⟩ := hb
      injection h with h; subst h
      rw [hb]
      exact ⟨by simp, hK⟩

/-- A heap without an object, and with another. -/
def Hp.dropAlloc (H : Hp) (id : Nat) (o : LObj) : Option Hp := match Nat.blt H.next 1000000 && Nat.blt id 1000000 with
  | true => some ⟨(H.t.put 21 id none).put 21 H.next (some o), Nat.succ H.next⟩
  | false => none

theorem Hp.dropAlloc_ls {H H' : Hp} {id : Nat} {o : LObj} (h : H.dropAlloc id o = some H') : H'.ls = (H.ls.drop id).alloc o := by
  unfold Hp.dropAlloc at h
  split at h
  · rename_i hb
    simp only [Bool.and_eq_true] at hb
    have h1 := (blt_iff _ _).1 hb.1
    have h2 := (blt_iff _ _).1 hb.2
    injection h with h; subst h
    simp only [Hp.ls, LS.alloc, LS.drop]
    congr 1
    funext j
    rw [Tr.get_put (some o) 21 _ H.next (by omega) j, Tr.get_put none 21 H.t id (by omega) j]
    by_cases e : j = H.next <;> simp [e] <;> rfl
  · cases h

def appendB (L : TypeId → Option Lay) (H : Hp) (t : TypeId) (x y : LV) : Option VH :=
  match L t with
  | some l => match l.k with
    | .sl e => match L e with
      | some le => match srcB H e y with
        | some news => match news with
          | [] => match x with
            | .nils => some ⟨x, H⟩
            | .hsl _ _ _ _ => some ⟨x, H⟩
            | .lit _ _ => some ⟨x, H⟩
            | _ => none
          | v :: r => match flatOk (v :: r) le.size with
            | false => none
            | true => match x with
              | .nils => match Nat.ble ((v :: r).length * le.bytes) 140737488355328 with
                | true => withH (.hsl H.next 0 (v :: r).length none) (H.alloc (.row (v :: r) e false))
                | false => none
              | .hsl id i n cc => match H.t.get id with
                | some o => match o with
                  | .row es bt g => match Nat.beq bt e && !g with
                    | true => match cc with
                      | some k => match Nat.ble (n + (v :: r).length) k with
                        | true => match i with
                          | 0 => match Nat.ble (n + (v :: r).length) es.length with
                            | true => withH (.hsl id 0 (n + (v :: r).length) (some k)) (H.upd id (.row (over es n (v :: r)) e false))
                            | false => none
                          | _ + 1 => none
                        | false => match Nat.ble ((n + (v :: r).length) * le.bytes) 140737488355328 with
                          | true => withH (.hsl H.next 0 (((es.drop i).take n) ++ v :: r).length none) (H.alloc (.row ((es.drop i).take n ++ v :: r) e false))
                          | false => none
                      | none => match i with
                        | 0 => match Nat.ble (n + (v :: r).length) es.length with
                          | true => withH (.hsl id 0 (n + (v :: r).length) none) (H.upd id (.row (over es n (v :: r)) e false))
                          | false => match Nat.ble ((n + (v :: r).length) * le.bytes) 140737488355328 with
                            | true => withH (.hsl H.next 0 (es.take n ++ v :: r).length none) (H.dropAlloc id (.row (es.take n ++ v :: r) e false))
                            | false => none
                        | _ + 1 => none
                    | false => none
                  | _ => none
                | none => none
              | .lit es full => match full && flatOk es le.size && Nat.ble ((es ++ v :: r).length * le.bytes) 140737488355328 with
                | true => withH (.hsl H.next 0 (es ++ v :: r).length none) (H.alloc (.row (es ++ v :: r) e false))
                | false => none
              | _ => none
        | none => none
      | none => none
    | _ => none
  | none => none

theorem appendB_ok {H : Hp} {t : TypeId} {x y : LV} {r : VH} {K : LV → LS → Prop} (h : appendB L H t x y = some r) (hK : K r.v r.H.ls) : appendL L H.ls t x y K := by
  unfold appendB at h
  unfold appendL
  cases h1 : L t with
  | none => rw [h1] at h; cases h
  | some l =>
    rw [h1] at h
    simp only at h ⊢
    cases hk : l.k <;> rw [hk] at h <;> simp only at h ⊢ <;> first | (cases h; done) | skip
    rename_i e
    cases h2 : L e with
    | none => rw [h2] at h; cases h
    | some le =>
      rw [h2] at h
      simp only at h ⊢
      cases hs : srcB H e y with
      | none => rw [hs] at h; cases h
      | some news =>
        rw [hs] at h
        refine srcB_ok hs ?_
        cases news with
        | nil => cases x <;> simp only at h ⊢ <;> first | (cases h; done) | (injection h with h; subst h; exact hK)
        | cons v rr =>
          simp only at h ⊢
          cases hf : flatOk (v :: rr) le.size with
          | false => rw [hf] at h; cases h
          | true =>
            rw [hf] at h
            refine ⟨flatOk_spec hf, ?_⟩
            cases x <;> simp only at h ⊢ <;> first | (cases h; done) | skip
            · cases hb : Nat.ble ((v :: rr).length * le.bytes) 140737488355328 with
              | false => rw [hb] at h; cases h
              | true =>
                rw [hb] at h
                obtain ⟨H', h3, rfl⟩ := withH_some h
                simp only at hK
                rw [Hp.alloc_ls h3] at hK
                exact ⟨Nat.le_of_ble_eq_true hb, hK⟩
            · rename_i id i n cc
              have hg : H.ls.get id = H.t.get id := rfl
              rw [hg]
              cases hx : H.t.get id with
              | none => rw [hx] at h; cases h
              | some o =>
                rw [hx] at h
                cases o <;> simp only at h ⊢ <;> first | (cases h; done) | skip
                rename_i es bt g
                cases hb : (Nat.beq bt e && !g) with
                | false => rw [hb] at h; cases h
                | true =>
                  rw [hb] at h
                  simp only at h ⊢
                  cases cc with
                  | some k =>
                    simp only at h ⊢
                    cases hl : Nat.ble (n + (v :: rr).length) k with
                    | true =>
                      rw [hl] at h
                      cases i with
                      | succ i => cases h
                      | zero =>
                        simp only at h ⊢
                        cases hl2 : Nat.ble (n + (v :: rr).length) es.length with
                        | false => rw [hl2] at h; cases h
                        | true =>
                          rw [hl2] at h
                          obtain ⟨H', h3, rfl⟩ := withH_some h
                          simp only at hK
                          rw [Hp.upd_ls h3] at hK
                          exact hK
                    | false =>
                      rw [hl] at h
                      simp only at h ⊢
                      cases hz : Nat.ble ((n + (v :: rr).length) * le.bytes) 140737488355328 with
                      | false => rw [hz] at h; cases h
                      | true =>
                        rw [hz] at h
                        obtain ⟨H', h3, rfl⟩ := withH_some h
                        simp only at hK
                        rw [Hp.alloc_ls h3] at hK
                        exact ⟨Nat.le_of_ble_eq_true hz, hK⟩
                  | none =>
                    simp only at h ⊢
                    cases i with
                    | succ i => cases h
                    | zero =>
                      simp only at h ⊢
                      cases hl : Nat.ble (n + (v :: rr).length) es.length with
                      | true =>
                        rw [hl] at h
                        obtain ⟨H', h3, rfl⟩ := withH_some h
                        simp only at hK
                        rw [Hp.upd_ls h3] at hK
                        exact hK
                      | false =>
                        rw [hl] at h
                        simp only at h ⊢
                        cases hz : Nat.ble ((n + (v :: rr).length) * le.bytes) 140737488355328 with
                        | false => rw [hz] at h; cases h
                        | true =>
                          rw [hz] at h
                          obtain ⟨H', h3, rfl⟩ := withH_some h
                          simp only at hK
                          rw [Hp.dropAlloc_ls h3] at hK
                          exact ⟨Nat.le_of_ble_eq_true hz, hK⟩
            · rename_i es full
              cases hb : (full && flatOk es le.size && Nat.ble ((es ++ v :: rr).length * le.bytes) 140737488355328) with
              | false => rw [hb] at h; cases h
              | true =>
                rw [hb] at h
                simp only [Bool.and_eq_true] at hb
                obtain ⟨⟨b1, b2⟩, b3⟩ := hb
                obtain ⟨H', h3, rfl⟩ := withH_some h
                simp only at hK
                rw [Hp.alloc_ls h3] at hK
                exact ⟨b1, flatOk_spec b2, Nat.le_of_ble_eq_true b3, hK⟩

end
end Den
/- Den, part 28: the layer carried out: an operation whole. -/
set_option linter.unusedSimpArgs false
set_option linter.unusedVariables false
namespace Den
open Go

/-- A frame carried out. -/
abbrev Ft := Tr LV

def evB (A : Ft) : Operand → Option LV
  | .tmp t => A.get t
  | .const v => ofConst v
  | .func f => some (.fn f [])
  | .global _ => none

def evsB (A : Ft) : List Operand → Option (List LV)
  | [] => some []
  | x :: r => match evB A x with
    | some v => match evsB A r with
      | some l => some (v :: l)
      | none => none
    | none => none

def evpsB (A : Ft) : List (Nat × Operand) → Option (List (Nat × LV))
  | [] => some []
  | (i, x) :: r => match evB A x with
    | some v => match evpsB A r with
      | some l => some ((i, v) :: l)
      | none => none
    | none => none

def evoB (A : Ft) : Option Operand → Option (Option LV)
  | none => some none
  | some x => match evB A x with
    | some v => some (some v)
    | none => none

/-- A frame and a frame carried out that say the same. -/
def FrEq (A : Fr) (B : Ft) : Prop := ∀ t, A.get t = B.get t

theorem evB_eq {A : Fr} {B : Ft} (h : FrEq A B) (x : Operand) : ev A x = evB B x := by
  cases x <;> simp [ev, evB, h _]
theorem evsB_eq {A : Fr} {B : Ft} (h : FrEq A B) : ∀ (xs : List Operand), evs A xs = evsB B xs
  | [] => rfl
  | x :: r => by
    simp only [evs, evsB, evB_eq h x, evsB_eq h r]
    cases evB B x with
    | none => rfl
    | some v => cases evsB B r <;> rfl
theorem evpsB_eq {A : Fr} {B : Ft} (h : FrEq A B) : ∀ (xs : List (Nat × Operand)), evps A xs = evpsB B xs
  | [] => rfl
  | (i, x) :: r => by
    simp only [evps, evpsB, evB_eq h x, evpsB_eq h r]
    cases evB B x with
    | none => rfl
    | some v => cases evpsB B r <;> rfl
theorem evoB_eq {A : Fr} {B : Ft} (h : FrEq A B) (x : Option Operand) : evo A x = evoB B x := by
  cases x with
  | none => rfl
  | some x =>
    simp only [evo, evoB, evB_eq h x]
    cases evB B x <;> rfl

/-- A value alone leaves the heap. -/
def keepH (H : Hp) : Option LV → Option VH
  | some v => some ⟨v, H⟩
  | none => none

theorem keepH_some {H : Hp} {o : Option LV} {r : VH} (h : keepH H o = some r) : ∃ v, o = some v ∧ r = ⟨v, H⟩ := by
  cases o with
  | none => cases h
  | some v => injection h with h; exact ⟨v, rfl, h.symm⟩

def builtinB (E : Env) (b : Builtin) (ts : List TypeId) (vs : List LV) (H : Hp) : Option VH :=
  match b with
  | .len => match ts with
    | [t] => match vs with
      | [x] => keepH H (lenB E.L t x)
      | _ => none
    | _ => none
  | .append => match ts with
    | [t, u] => match vs with
      | [x, y] => match Nat.beq t u with
        | true => appendB E.L H t x y
        | false => none
      | _ => none
    | _ => none
  | .max => match vs with
    | [.int k a, .int _ b] => some ⟨.int k (match decide (b > a) with | true => b | false => a), H⟩
    | _ => none
  | .min => match vs with
    | [.int k a, .int _ b] => some ⟨.int k (match decide (b < a) with | true => b | false => a), H⟩
    | _ => none
  | .complex => match vs with
    | [.flt k a, .flt k' b] => match decide (k = k') with
      | true => some ⟨.cpx k a b, H⟩
      | false => none
    | _ => none
  | .real => match vs with
    | [.cpx k a _] => some ⟨.flt k a, H⟩
    | _ => none
  | .imag => match vs with
    | [.cpx k _ a] => some ⟨.flt k a, H⟩
    | _ => none
  | _ => none

theorem builtinB_ok {E : Env} {b : Builtin} {ts : List TypeId} {vs : List LV} {H : Hp} {r : VH} {K : LV → LS → Prop} (h : builtinB E b ts vs H = some r) (hK : K r.v r.H.ls) : builtinL E b ts vs H.ls K := by
  unfold builtinB at h
  unfold builtinL
  cases b <;> simp only at h ⊢ <;> first | (cases h; done) | skip
  case len =>
    match ts, vs with
    | [t], [x] =>
      obtain ⟨v, h1, rfl⟩ := keepH_some h
      exact lenB_ok h1 hK
    | [], _ => cases h
    | [t], [] => cases h
    | [t], _ :: _ :: _ => cases h
    | _ :: _ :: _, _ => cases h
  case append =>
    match ts, vs with
    | [t, u], [x, y] =>
      simp only at h ⊢
      cases hb : Nat.beq t u with
      | false => rw [hb] at h; cases h
      | true => rw [hb] at h; exact appendB_ok h hK
    | [], _ => cases h
    | [_], _ => cases h
    | _ :: _ :: _ :: _, _ => cases h
    | [t, u], [] => cases h
    | [t, u], [_] => cases h
    | [t, u], _ :: _ :: _ :: _ => cases h
  case max =>
    split at h
    · rename_i k a k' b
      injection h with h; subst h
      simp only at hK ⊢
      cases hd : decide (b > a) with
      | true => rw [hd] at hK; rw [if_pos (of_decide_eq_true hd)]; exact hK
      | false => rw [hd] at hK; rw [if_neg (of_decide_eq_false hd)]; exact hK
    · cases h
  case min =>
    split at h
    · rename_i k a k' b
      injection h with h; subst h
      simp only at hK ⊢
      cases hd : decide (b < a) with
      | true => rw [hd] at hK; rw [if_pos (of_decide_eq_true hd)]; exact hK
      | false => rw [hd] at hK; rw [if_neg (of_decide_eq_false hd)]; exact hK
    · cases h
  case complex =>
    split at h
    · rename_i k a k' b
      simp only at h ⊢
      cases hd : decide (k = k') with
      | true =>
        rw [hd] at h
        injection h with h; subst h
        exact ⟨of_decide_eq_true hd, hK⟩
      | false => rw [hd] at h; cases h
    · cases h
  case real =>
    split at h
    · injection h with h; subst h; exact hK
    · cases h
  case imag =>
    split at h
    · injection h with h; subst h; exact hK
    · cases h

/-- How calls are carried out. -/
abbrev CallF := Nat → List LV → Hp → Option VH

def callB (E : Env) (C : CallF) (A : Ft) (c : Call) (H : Hp) : Option VH :=
  match evsB A c.args.toList with
  | some vs => match c.callee with
    | .builtin b => builtinB E b c.argTypes.toList vs H
    | .value f => match evB A f with
      | some u => match u with
        | .fn g cs => C g (vs ++ cs) H
        | _ => none
      | none => none
    | .invoke _ _ => none
  | none => none

def moveB (A : Ft) (H : Hp) (x : Operand) : Option VH := keepH H (evB A x)
def pickB (A : Ft) (H : Hp) (b x y : Operand) : Option VH := match evB A b with
  | some v => match v with
    | .bool c => match c with
      | true => moveB A H x
      | false => moveB A H y
    | _ => none
  | none => none
def boxB (A : Ft) (H : Hp) (t : TypeId) (x : Operand) : Option VH := match evB A x with
  | some v => withH (.bptr H.next 0) (H.alloc (.box v t))
  | none => none
def bldB (E : Env) (A : Ft) (H : Hp) (t : TypeId) (ps : List (Nat × Operand)) : Option VH := match evpsB A ps with
  | some vs => keepH H (buildB E.L t vs)
  | none => none
def bslB (E : Env) (A : Ft) (H : Hp) (t : TypeId) (n : Nat) (ps : List (Nat × Operand)) : Option VH := match E.B with
  | true => match evpsB A ps with
    | some vs => keepH H (litB E.L t n vs)
    | none => none
  | false => none
def ldB (E : Env) (A : Ft) (H : Hp) (t : TypeId) (x : Operand) : Option VH := match evB A x with
  | some p => keepH H (loadB E.L H t p)
  | none => none
def stB (E : Env) (A : Ft) (H : Hp) (t : TypeId) (x y : Operand) : Option VH := match evB A x with
  | some p => match evB A y with
    | some v => withH (.tup []) (storeB E.L H t p v)
    | none => none
  | none => none
def nilB (A : Ft) (H : Hp) (x : Operand) : Option VH := match evB A x with
  | some p => match p with
    | .bptr id j => some ⟨.bptr id j, H⟩
    | .rptr id i j l => some ⟨.rptr id i j l, H⟩
    | .lptr e j => some ⟨.lptr e j, H⟩
    | _ => none
  | none => none
def opn1 (A : Ft) (H : Hp) (x : Operand) (F : LV → Option LV) : Option VH := match evB A x with
  | some v => keepH H (F v)
  | none => none
def opn2 (A : Ft) (H : Hp) (x y : Operand) (F : LV → LV → Option LV) : Option VH := match evB A x with
  | some v => match evB A y with
    | some u => keepH H (F v u)
    | none => none
  | none => none
def mkfB (A : Ft) (H : Hp) (fn : Fn) (fs cs : List Operand) : Option VH := match fn with
  | .func f => match fs with
    | [] => match evsB A cs with
      | some vs => some ⟨.fn f vs, H⟩
      | none => none
    | _ => none
  | _ => none
def mksB (E : Env) (A : Ft) (H : Hp) (t : TypeId) (x y : Operand) : Option VH := match evB A x with
  | some v => match evB A y with
    | some u => makeSliceB E.L H t v u
    | none => none
  | none => none
def slcB (E : Env) (A : Ft) (H : Hp) (t : TypeId) (x : Operand) (lo hi mx : Option Operand) : Option VH := match evB A x with
  | some v => match evoB A lo with
    | some lo' => match evoB A hi with
      | some hi' => match evoB A mx with
        | some mx' => match mx' with
          | some _ => match hi' with
            | some _ => keepH H (sliceB E.L H t v lo' hi' mx')
            | none => none
          | none => keepH H (sliceB E.L H t v lo' hi' none)
        | none => none
      | none => none
    | none => none
  | none => none

def opB (E : Env) (C : CallF) (A : Ft) (o : Go.Op) (H : Hp) : Option VH :=
  match o with
  | .move x => moveB A H x
  | .assign x => moveB A H x
  | .pick b x y => pickB A H b x y
  | .alloc t => allocB E.L H t
  | .box t x => boxB A H t x
  | .build t ps => bldB E A H t ps.toList
  | .buildSlice t n ps => bslB E A H t n ps.toList
  | .load t x => ldB E A H t x
  | .store t x y => stB E A H t x y
  | .nilCheck x => nilB A H x
  | .binOp op t x y _ => opn2 A H x y (binB E.L op t)
  | .unOp op _ x => opn1 A H x (unB op)
  | .convert src dst x => opn1 A H x (convB E.L src dst)
  | .makeFunc fn fs cs => mkfB A H fn fs.toList cs.toList
  | .makeSlice t x y => mksB E A H t x y
  | .slice t x lo hi mx => slcB E A H t x lo hi mx
  | .fieldAddr t x f => opn1 A H x fun p => fieldAddrB E.L t p f
  | .field t x f => opn1 A H x fun p => fieldB E.L t p f
  | .indexAddr t x i => opn2 A H x i (indexAddrB E.L H t)
  | .index t x i => opn2 A H x i (indexB E.L t)
  | .extract x i => opn1 A H x fun p => extractB p i
  | .call cl => callB E C A cl H
  | _ => none

/-- Calls are carried out as they are told. -/
def CallsOk (E : Env) (C : CallF) : Prop := ∀ g args H r, C g args H = some r → E.H g args H.ls r.v r.H.ls

theorem opn1_some {A : Ft} {H : Hp} {x : Operand} {F : LV → Option LV} {r : VH} (h : opn1 A H x F = some r) : ∃ v u, evB A x = some v ∧ F v = some u ∧ r = ⟨u, H⟩ := by
  unfold opn1 at h
  split at h
  · rename_i v hv
    obtain ⟨u, h1, h2⟩ := keepH_some h
    exact ⟨v, u, hv, h1, h2⟩
  · cases h
theorem opn2_some {A : Ft} {H : Hp} {x y : Operand} {F : LV → LV → Option LV} {r : VH} (h : opn2 A H x y F = some r) : ∃ v w u, evB A x = some v ∧ evB A y = some w ∧ F v w = some u ∧ r = ⟨u, H⟩ := by
  unfold opn2 at h
  split at h
  · rename_i v hv
    split at h
    · rename_i w hw
      obtain ⟨u, h1, h2⟩ := keepH_some h
      exact ⟨v, w, u, hv, hw, h1, h2⟩
    · cases h
  · cases h

theorem opB_ok {E : Env} {C : CallF} (hC : CallsOk E C) {A : Fr} {B : Ft} (hA : FrEq A B) {o : Oper} {H : Hp} {r : VH} {K : LV → LS → Prop} (h : opB E C B o.op H = some r) (hK : K r.v r.H.ls) : opL E A o H.ls K := by
  unfold opB at h
  unfold opL
  cases hop : o.op <;> rw [hop] at h <;> simp only at h ⊢ <;> first | (cases h; done) | skip
  case move x =>
    obtain ⟨v, h1, rfl⟩ := keepH_some h
    rw [evB_eq hA, h1]; exact hK
  case assign x =>
    obtain ⟨v, h1, rfl⟩ := keepH_some h
    rw [evB_eq hA, h1]; exact hK
  case pick b x y =>
    unfold pickB at h
    rw [evB_eq hA b]
    split at h
    case h_2 => cases h
    rename_i v hv
    rw [hv]
    split at h
    case h_2 => cases h
    rename_i c
    cases c with
    | true =>
      obtain ⟨v, h1, rfl⟩ := keepH_some h
      show oneOf (ev A x) _
      rw [evB_eq hA, h1]; exact hK
    | false =>
      obtain ⟨v, h1, rfl⟩ := keepH_some h
      show oneOf (ev A y) _
      rw [evB_eq hA, h1]; exact hK
  case alloc t => exact allocB_ok h hK
  case box t x =>
    unfold boxB at h
    split at h
    case h_2 => cases h
    rename_i v hv
    obtain ⟨H', h1, rfl⟩ := withH_some h
    rw [evB_eq hA, hv]
    simp only at hK
    rw [Hp.alloc_ls h1] at hK
    exact hK
  case build t ps =>
    unfold bldB at h
    split at h
    case h_2 => cases h
    rename_i vs hvs
    obtain ⟨v, h1, rfl⟩ := keepH_some h
    rw [evpsB_eq hA, hvs]
    exact buildB_ok h1 hK
  case buildSlice t n ps =>
    unfold bslB at h
    cases hB : E.B with
    | false => rw [hB] at h; cases h
    | true =>
      rw [hB] at h
      simp only at h
      split at h
      case h_2 => cases h
      rename_i vs hvs
      obtain ⟨v, h1, rfl⟩ := keepH_some h
      rw [evpsB_eq hA, hvs]
      exact litB_ok (K := fun v => K v H.ls) h1 hK
  case load t x =>
    unfold ldB at h
    split at h
    case h_2 => cases h
    rename_i p hp
    obtain ⟨v, h1, rfl⟩ := keepH_some h
    rw [evB_eq hA, hp]
    exact loadB_ok h1 hK
  case store t x y =>
    unfold stB at h
    split at h
    case h_2 => cases h
    rename_i p hp
    split at h
    case h_2 => cases h
    rename_i v hv
    obtain ⟨H', h1, rfl⟩ := withH_some h
    rw [evB_eq hA, hp, evB_eq hA, hv]
    exact storeB_ok h1 hK
  case nilCheck x =>
    unfold nilB at h
    split at h
    case h_2 => cases h
    rename_i p hp
    rw [evB_eq hA, hp]
    cases p <;> simp only at h <;> first | (cases h; done) | (injection h with h; subst h; exact hK)
  case binOp op t x y z =>
    obtain ⟨v, w, u, h1, h2, h3, rfl⟩ := opn2_some h
    rw [evB_eq hA, h1, evB_eq hA, h2]
    exact binB_ok (K := fun v => K v H.ls) h3 hK
  case unOp op t x =>
    obtain ⟨v, u, h1, h3, rfl⟩ := opn1_some h
    rw [evB_eq hA, h1]
    exact unB_ok (K := fun v => K v H.ls) h3 hK
  case convert src dst x =>
    obtain ⟨v, u, h1, h3, rfl⟩ := opn1_some h
    rw [evB_eq hA, h1]
    exact convB_ok (K := fun v => K v H.ls) h3 hK
  case makeFunc fn fs cs =>
    unfold mkfB at h
    split at h
    case h_2 => cases h
    split at h
    case h_2 => cases h
    rename_i hfs
    split at h
    case h_2 => cases h
    rename_i vs hvs
    injection h with h; subst h
    rw [hfs]
    simp only
    rw [evsB_eq hA, hvs]
    exact hK
  case makeSlice t x y =>
    unfold mksB at h
    split at h
    case h_2 => cases h
    rename_i v hv
    split at h
    case h_2 => cases h
    rename_i u hu
    rw [evB_eq hA, hv, evB_eq hA, hu]
    exact makeSliceB_ok h hK
  case slice t x lo hi mx =>
    unfold slcB at h
    split at h
    case h_2 => cases h
    rename_i v hv
    split at h
    case h_2 => cases h
    rename_i lo' hlo
    split at h
    case h_2 => cases h
    rename_i hi' hhi
    split at h
    case h_2 => cases h
    rename_i mx' hmx
    rw [evB_eq hA, hv]
    simp only [oneOf, evoB_eq hA, hlo, hhi, hmx]
    split at h
    · split at h
      case h_2 => cases h
      obtain ⟨u, h1, rfl⟩ := keepH_some h
      exact ⟨trivial, sliceB_ok (K := fun v => K v H.ls) h1 hK⟩
    · obtain ⟨u, h1, rfl⟩ := keepH_some h
      exact ⟨trivial, sliceB_ok (K := fun v => K v H.ls) h1 hK⟩
  case fieldAddr t x f =>
    obtain ⟨v, u, h1, h3, rfl⟩ := opn1_some h
    rw [evB_eq hA, h1]
    exact fieldAddrB_ok (K := fun v => K v H.ls) h3 hK
  case field t x f =>
    obtain ⟨v, u, h1, h3, rfl⟩ := opn1_some h
    rw [evB_eq hA, h1]
    exact fieldB_ok (K := fun v => K v H.ls) h3 hK
  case indexAddr t x i =>
    obtain ⟨v, w, u, h1, h2, h3, rfl⟩ := opn2_some h
    rw [evB_eq hA, h1, evB_eq hA, h2]
    exact indexAddrB_ok (K := fun v => K v H.ls) h3 hK
  case index t x i =>
    obtain ⟨v, w, u, h1, h2, h3, rfl⟩ := opn2_some h
    rw [evB_eq hA, h1, evB_eq hA, h2]
    exact indexB_ok (K := fun v => K v H.ls) h3 hK
  case extract x i =>
    obtain ⟨v, u, h1, h3, rfl⟩ := opn1_some h
    rw [evB_eq hA, h1]
    exact extractB_ok (K := fun v => K v H.ls) h3 hK
  case call c =>
    unfold callB at h
    unfold callL
    split at h
    case h_2 => cases h
    rename_i vs hvs
    rw [evsB_eq hA, hvs]
    simp only
    cases hc : c.callee with
    | invoke r m => rw [hc] at h; cases h
    | builtin b => rw [hc] at h; exact builtinB_ok h hK
    | value f =>
      rw [hc] at h
      simp only at h ⊢
      split at h
      case h_2 => cases h
      rename_i u hu
      split at h
      case h_2 => cases h
      rw [evB_eq hA, hu]
      exact ⟨_, _, hC _ _ _ _ h, hK⟩

end Den
/- Den, part 29: the layer carried out: a region in the order of the text. -/
set_option linter.unusedSimpArgs false
set_option linter.unusedVariables false
namespace Den
open Go

/-- A frame and a heap. -/
structure AH where
  A : Ft
  H : Hp

def putB (n : Nat) (A : Ft) (d : Option Nat) (v : LV) : Option Ft := match d with
  | none => some A
  | some d => match Nat.blt d n && Nat.blt d 60000 with
    | true => some (A.put 16 d (some v))
    | false => none

theorem putB_ok {n : Nat} {A : Fr} {B B' : Ft} {d : Option Nat} {v : LV} (hA : FrEq A B) (hn : A.n = n) (h : putB n B d v = some B') : FrEq (A.put d v) B' ∧ (∀ X, X → dstOk A d X) := by
  unfold putB at h
  cases d with
  | none => injection h with h; subst h; exact ⟨hA, fun X hX => hX⟩
  | some d =>
    simp only at h
    split at h
    case h_2 => cases h
    rename_i hb
    simp only [Bool.and_eq_true] at hb
    have h1 := (blt_iff _ _).1 hb.1
    have h2 := (blt_iff _ _).1 hb.2
    injection h with h; subst h
    refine ⟨fun t => ?_, fun X hX => ?_⟩
    · rw [Tr.get_put (some v) 16 B d (by omega) t]
      by_cases e : t = d
      · subst e; rw [Fr.get_put_same, if_pos rfl]
      · rw [Fr.get_put_ne _ _ (fun x => e x.symm), if_neg e]; exact hA t
    · simp only [dstOk]; rw [hn, hb.1]; exact hX

def guardB (ops : List Oper) (A : Ft) (g : Option (Nat × Bool)) : Option Bool := match g with
  | none => some true
  | some (j, want) => match nth ops j with
    | some oj => match oj.dst with
      | some d => match A.get d with
        | some v => match v with
          | .bool b => match b with
            | true => some want
            | false => some (!want)
          | .tup l => match l with
            | [] => some false
            | _ :: _ => none
          | _ => none
        | none => none
      | none => none
    | none => none

theorem guardB_ok {ops : List Oper} {A : Fr} {B : Ft} {g : Option (Nat × Bool)} {b : Bool} {X Y : Prop} (hA : FrEq A B) (h : guardB ops B g = some b) (hb : if b then X else Y) : guardL ops A g X Y := by
  unfold guardB at h
  unfold guardL
  cases g with
  | none => simp only at h; injection h with h; subst h; simpa using hb
  | some p =>
    obtain ⟨j, want⟩ := p
    simp only at h ⊢
    cases h1 : nth ops j with
    | none => rw [h1] at h; cases h
    | some oj =>
      rw [h1] at h
      simp only at h ⊢
      cases h2 : oj.dst with
      | none => rw [h2] at h; cases h
      | some d =>
        rw [h2] at h
        simp only at h ⊢
        rw [hA d]
        cases h3 : B.get d with
        | none => rw [h3] at h; cases h
        | some v =>
          rw [h3] at h
          simp only at h ⊢
          cases v <;> simp only at h <;> first | (cases h; done) | skip
          · rename_i c
            cases c <;> cases want <;> simp only at h ⊢ <;> (injection h with h; subst h; simpa using hb)
          · rename_i l
            cases l with
            | nil => simp only at h ⊢; injection h with h; subst h; simpa using hb
            | cons _ _ => cases h

def runB (E : Env) (C : CallF) (n : Nat) (ops : List Oper) : List Oper → Ft → Hp → Option AH
  | [], A, H => some ⟨A, H⟩
  | o :: r, A, H => match guardB ops A o.guard with
    | some b => match b with
      | true => match opB E C A o.op H with
        | some p => match putB n A o.dst p.v with
          | some A' => runB E C n ops r A' p.H
          | none => none
        | none => none
      | false => match putB n A o.dst (.tup []) with
        | some A' => runB E C n ops r A' H
        | none => none
    | none => none

theorem splitB_intro {g : Bool} {v : LV} {K : LV → Prop} (h : K v) : splitB g v K := by
  cases g with
  | false => exact h
  | true => cases v <;> first | exact h | (rename_i b; cases b <;> exact h)

theorem runB_ok {E : Env} {C : CallF} (hC : CallsOk E C) {n : Nat} {ops : List Oper} {K : Fr → LS → Prop} : ∀ (rest : List Oper) (i : Nat) (A : Fr) (B : Ft) (H : Hp) (r : AH), FrEq A B → A.n = n →
    runB E C n ops rest B H = some r → (∀ A', FrEq A' r.A → A'.n = n → K A' r.H.ls) → runL E ops i rest A H.ls K := by
  intro rest
  induction rest with
  | nil => intro i A B H r hA hn h hK; simp only [runB] at h; injection h with h; subst h; exact hK A hA hn
  | cons o rest ih =>
    intro i A B H r hA hn h hK
    simp only [runB] at h
    simp only [runL]
    split at h
    case h_2 => cases h
    rename_i b hg
    cases b with
    | true =>
      simp only at h
      split at h
      case h_2 => cases h
      rename_i p hp
      split at h
      case h_2 => cases h
      rename_i A' hA'
      obtain ⟨h1, h2⟩ := putB_ok hA hn hA'
      refine h2 _ (guardB_ok hA hg ?_)
      simp only [if_true]
      refine opB_ok hC hA hp (splitB_intro ?_)
      exact ih (i + 1) _ _ _ r h1 (by rw [Fr.put_n]; exact hn) h hK
    | false =>
      simp only at h
      split at h
      case h_2 => cases h
      rename_i A' hA'
      obtain ⟨h1, h2⟩ := putB_ok hA hn hA'
      refine h2 _ (guardB_ok hA hg ?_)
      simp only [Bool.false_eq_true, if_false]
      exact ih (i + 1) _ _ _ r h1 (by rw [Fr.put_n]; exact hn) h hK

/-! ### Are two values the same? -/
mutual
def LV.same : LV → LV → Bool
  | .bool a, .bool b => a == b
  | .int k a, .int k' b => decide (k = k') && decide (a = b)
  | .flt k a, .flt k' b => decide (k = k') && Nat.beq a b
  | .cpx k a a', .cpx k' b b' => decide (k = k') && Nat.beq a b && Nat.beq a' b'
  | .str a, .str b => decide (a = b)
  | .nilp, .nilp => true
  | .nils, .nils => true
  | .nilm, .nilm => true
  | .nilf, .nilf => true
  | .bptr a b, .bptr a' b' => Nat.beq a a' && Nat.beq b b'
  | .rptr a b c d, .rptr a' b' c' d' => Nat.beq a a' && Nat.beq b b' && Nat.beq c c' && Nat.beq d d'
  | .hsl a b c d, .hsl a' b' c' d' => Nat.beq a a' && Nat.beq b b' && Nat.beq c c' && decide (d = d')
  | .lit l f, .lit l' f' => LV.sames l l' && (f == f')
  | .lptr e j, .lptr e' j' => LV.same e e' && Nat.beq j j'
  | .agg l, .agg l' => LV.sames l l'
  | .tup l, .tup l' => LV.sames l l'
  | .fn f l, .fn f' l' => Nat.beq f f' && LV.sames l l'
  | .map a, .map b => Nat.beq a b
  | _, _ => false
def LV.sames : List LV → List LV → Bool
  | [], [] => true
  | x :: r, y :: r' => LV.same x y && LV.sames r r'
  | _, _ => false
end

mutual
theorem LV.same_eq : ∀ (x y : LV), LV.same x y = true → x = y := by
  intro x y h
  cases x with
  | lit l f => cases y <;> first | (simp [LV.same] at h; done) | (simp only [LV.same, Bool.and_eq_true, beq_iff_eq] at h; rw [LV.sames_eq l _ h.1, h.2])
  | lptr e j => cases y <;> first | (simp [LV.same] at h; done) | (simp only [LV.same, Bool.and_eq_true] at h; rw [LV.same_eq e _ h.1, Nat.eq_of_beq_eq_true h.2])
  | agg l => cases y <;> first | (simp [LV.same] at h; done) | (simp only [LV.same] at h; rw [LV.sames_eq l _ h])
  | tup l => cases y <;> first | (simp [LV.same] at h; done) | (simp only [LV.same] at h; rw [LV.sames_eq l _ h])
  | fn f l => cases y <;> first | (simp [LV.same] at h; done) | (simp only [LV.same, Bool.and_eq_true] at h; rw [LV.sames_eq l _ h.2, Nat.eq_of_beq_eq_true h.1])
  | bool a => cases y <;> simp [LV.same] at h ⊢; exact h
  | int k a => cases y <;> simp [LV.same] at h ⊢; exact h
  | flt k a => cases y <;> simp [LV.same] at h ⊢; exact h
  | cpx k a b => cases y <;> simp [LV.same] at h ⊢; exact ⟨h.1.1, h.1.2, h.2⟩
  | str a => cases y <;> simp [LV.same] at h ⊢; exact h
  | nilp => cases y <;> simp [LV.same] at h ⊢
  | nils => cases y <;> simp [LV.same] at h ⊢
  | nilm => cases y <;> simp [LV.same] at h ⊢
  | nilf => cases y <;> simp [LV.same] at h ⊢
  | bptr a b => cases y <;> simp [LV.same] at h ⊢; exact h
  | rptr a b c d => cases y <;> simp [LV.same] at h ⊢; exact ⟨h.1.1.1, h.1.1.2, h.1.2, h.2⟩
  | hsl a b c d => cases y <;> simp [LV.same] at h ⊢; exact ⟨h.1.1.1, h.1.1.2, h.1.2, h.2⟩
  | map a => cases y <;> simp [LV.same] at h ⊢; exact h
theorem LV.sames_eq : ∀ (x y : List LV), LV.sames x y = true → x = y := by
  intro x y h
  cases x with
  | nil => cases y <;> first | rfl | (simp [LV.sames] at h; done)
  | cons a r => cases y <;> first | (simp [LV.sames] at h; done) | (simp only [LV.sames, Bool.and_eq_true] at h; rw [LV.same_eq a _ h.1, LV.sames_eq r _ h.2])
end

end Den
/- Den, part 30: the layer carried out: a region whose order is drawn. -/
set_option linter.unusedSimpArgs false
set_option linter.unusedVariables false
namespace Den
open Go

/-- What one operation of the run did, carried out. -/
structure RecB where
  o : Oper
  B : Ft
  H' : Hp
  v : LV
  did : Bool

def drB (E : Env) (C : CallF) (n : Nat) (ops : List Oper) : List Oper → Ft → Hp → List RecB → Option (List RecB × AH)
  | [], A, H, tr => some (tr, ⟨A, H⟩)
  | o :: r, A, H, tr => match guardB ops A o.guard with
    | some b => match b with
      | true => match opB E C A o.op H with
        | some p => match putB n A o.dst p.v with
          | some A' => drB E C n ops r A' p.H (tr ++ [⟨o, A, p.H, p.v, true⟩])
          | none => none
        | none => none
      | false => match putB n A o.dst (.tup []) with
        | some A' => drB E C n ops r A' H (tr ++ [⟨o, A, H, .tup [], false⟩])
        | none => none
    | none => none

structure TR1 (t : Rec) (b : RecB) : Prop where
  o : t.o = b.o
  A : FrEq t.A b.B
  s' : t.s' = b.H'.ls
  v : t.v = b.v
  did : t.did = b.did

/-- Two runs that say the same. -/
def TR : List Rec → List RecB → Prop
  | [], [] => True
  | t :: r, b :: r' => TR1 t b ∧ TR r r'
  | _, _ => False

theorem TR.snoc : ∀ {x : List Rec} {y : List RecB} {t : Rec} {b : RecB}, TR x y → TR1 t b → TR (x ++ [t]) (y ++ [b])
  | [], [], t, b, _, h => ⟨h, trivial⟩
  | _ :: _, _ :: _, t, b, ⟨h1, h2⟩, h => ⟨h1, TR.snoc h2 h⟩
  | [], _ :: _, _, _, h, _ => h.elim
  | _ :: _, [], _, _, h, _ => h.elim

theorem TR.nth : ∀ {x : List Rec} {y : List RecB}, TR x y → ∀ (i : Nat) b, nth y i = some b → ∃ t, nth x i = some t ∧ TR1 t b
  | [], [], _, i, b, h => by simp [Den.nth] at h
  | t :: r, b' :: r', ⟨h1, h2⟩, i, b, h => by
    cases i with
    | zero => simp only [Den.nth] at h; injection h with h; subst h; exact ⟨t, rfl, h1⟩
    | succ i => exact TR.nth h2 i b h
  | [], _ :: _, h, _, _, _ => h.elim
  | _ :: _, [], h, _, _, _ => h.elim

theorem drB_ok {E : Env} {C : CallF} (hC : CallsOk E C) {n : Nat} {ops : List Oper} {K : List Rec → Fr → LS → Prop} : ∀ (rest : List Oper) (i : Nat) (A : Fr) (B : Ft) (H : Hp) (tr : List Rec) (trB : List RecB) (r : List RecB × AH),
    FrEq A B → A.n = n → TR tr trB → drB E C n ops rest B H trB = some r → (∀ tr' A', TR tr' r.1 → FrEq A' r.2.A → A'.n = n → K tr' A' r.2.H.ls) → drawL E ops i rest A H.ls tr K := by
  intro rest
  induction rest with
  | nil => intro i A B H tr trB r hA hn ht h hK; simp only [drB] at h; injection h with h; subst h; exact hK tr A ht hA hn
  | cons o rest ih =>
    intro i A B H tr trB r hA hn ht h hK
    simp only [drB] at h
    simp only [drawL]
    split at h
    case h_2 => cases h
    rename_i b hg
    cases b with
    | true =>
      simp only at h
      split at h
      case h_2 => cases h
      rename_i p hp
      split at h
      case h_2 => cases h
      rename_i A' hA'
      obtain ⟨h1, h2⟩ := putB_ok hA hn hA'
      refine h2 _ (guardB_ok hA hg ?_)
      simp only [if_true]
      refine opB_ok hC hA hp (splitB_intro ?_)
      exact ih (i + 1) _ _ _ _ _ r h1 (by rw [Fr.put_n]; exact hn) (ht.snoc ⟨rfl, hA, rfl, rfl, rfl⟩) h hK
    | false =>
      simp only at h
      split at h
      case h_2 => cases h
      rename_i A' hA'
      obtain ⟨h1, h2⟩ := putB_ok hA hn hA'
      refine h2 _ (guardB_ok hA hg ?_)
      simp only [Bool.false_eq_true, if_false]
      exact ih (i + 1) _ _ _ _ _ r h1 (by rw [Fr.put_n]; exact hn) (ht.snoc ⟨rfl, hA, rfl, rfl, rfl⟩) h hK

def stB' (T : List RecB) (ch : List Nat) (H0 : Hp) : Nat → Option Hp
  | 0 => some H0
  | k + 1 => match nth ch k with
    | some j => match nth T j with
      | some t => some t.H'
      | none => none
    | none => none

theorem stB'_ok {T : List Rec} {TB : List RecB} (ht : TR T TB) {ch : List Nat} {H0 Hk : Hp} {k : Nat} (h : stB' TB ch H0 k = some Hk) : stOf T ch H0.ls k = Hk.ls := by
  cases k with
  | zero => simp only [stB'] at h; injection h with h; subst h; rfl
  | succ k =>
    simp only [stB'] at h
    simp only [stOf]
    split at h
    case h_2 => cases h
    rename_i j hj
    split at h
    case h_2 => cases h
    rename_i b hb
    injection h with h; subst h
    obtain ⟨t, h1, h2⟩ := ht.nth j b hb
    rw [hj]
    simp only
    rw [h1]
    exact h2.s'

def demB (E : Env) (C : CallF) (T : List RecB) (ch : List Nat) (H0 : Hp) : List (Nat × Nat) → Bool
  | [] => true
  | (i, k) :: r => (match nth T i with
    | some t => match t.did with
      | true => looker t.o && (match stB' T ch H0 k with
        | some Hk => match opB E C t.B t.o.op Hk with
          | some p => LV.same p.v t.v
          | none => false
        | none => false)
      | false => true
    | none => false) && demB E C T ch H0 r

theorem opB_looker {E : Env} {C : CallF} {A : Ft} {o : Oper} {H : Hp} {r : VH} (hl : looker o = true) (h : opB E C A o.op H = some r) : r.H = H := by
  unfold looker at hl
  unfold opB at h
  cases hop : o.op <;> rw [hop] at h hl <;> simp only at h hl <;> first | (cases hl; done) | skip
  · unfold ldB at h
    split at h
    case h_2 => cases h
    obtain ⟨v, _, rfl⟩ := keepH_some h
    rfl
  · unfold slcB at h
    repeat (split at h <;> first | (cases h; done) | skip)
    all_goals (obtain ⟨v, _, rfl⟩ := keepH_some h; rfl)
  · obtain ⟨_, _, _, _, _, _, rfl⟩ := opn2_some h
    rfl

theorem demB_ok {E : Env} {C : CallF} (hC : CallsOk E C) {T : List Rec} {TB : List RecB} (ht : TR T TB) {ch : List Nat} {H0 : Hp} : ∀ {un : List (Nat × Nat)}, demB E C TB ch H0 un = true → demL E T ch H0.ls un
  | [], _ => trivial
  | (i, k) :: r, h => by
    simp only [demB, Bool.and_eq_true] at h
    refine ⟨?_, demB_ok hC ht h.2⟩
    have h := h.1
    split at h
    case h_2 => cases h
    rename_i b hb
    obtain ⟨t, h1, h2⟩ := ht.nth i b hb
    rw [h1]
    simp only
    cases hd : t.did with
    | false => trivial
    | true =>
      rw [h2.did] at hd
      rw [hd] at h
      simp only [Bool.and_eq_true] at h
      obtain ⟨hl, h⟩ := h
      split at h
      case h_2 => cases h
      rename_i Hk hk
      split at h
      case h_2 => cases h
      rename_i p hp
      rw [stB'_ok ht hk]
      rw [← h2.o] at hp hl
      refine opB_ok hC h2.A hp ⟨?_, ?_⟩
      · rw [LV.same_eq _ _ h, h2.v]
      · rw [opB_looker hl hp]

end Den
/- Den, part 31: the layer carried out: code and calls. -/
set_option linter.unusedSimpArgs false
set_option linter.unusedVariables false
namespace Den
open Go

/-- What a piece of code did. -/
structure Res where
  e : Exit
  A : Ft
  H : Hp

/-- What there is to be carried out. -/
inductive Task where
  | code (c : Code)
  | round (c : Code)
  | inside (body c : Code)

/-- How a region whose order is drawn is read: its chain, what floats, the windows, the order in which it is told. -/
abbrev Pl := List Nat × List Nat × List (Nat × Nat) × List Nat
abbrev Dt := Nat → Nat → Option Pl

def wipeT (ops : List Oper) : List Nat → Ft → Ft
  | [], A => A
  | f :: r, A => wipeT ops r (match nth ops f with
    | some o => match o.dst with
      | some d => A.put 16 d none
      | none => A
    | none => A)

def drawB (E : Env) (C : CallF) (n : Nat) (ops : List Oper) (p : Pl) (A : Ft) (H : Hp) : Option AH :=
  match p.2.2.1 with
  | [] => runB E C n ops ops (wipeT ops p.2.1 A) H
  | u :: un => match drB E C n ops ops (wipeT ops p.2.1 A) H [] with
    | some r => match demB E C r.1 p.1 H (u :: un) with
      | true => some r.2
      | false => none
    | none => none

def resAH : Option AH → Option Res
  | some r => some ⟨.normal, r.A, r.H⟩
  | none => none

/-- How a task is carried out, calls included. -/
abbrev Ih := Nat → Nat → Task → Ft → Hp → Option Res

def slotsT : Nat → List LV → Ft → Ft
  | _, [], A => A
  | i, v :: r, A => slotsT (i + 1) r (A.put 16 i (some v))

def resL (E : Env) (A : Ft) (H : Hp) : List ResultVar → Option (List LV)
  | [] => some []
  | .tmp t :: r => match A.get t with
    | some v => match resL E A H r with
      | some l => some (v :: l)
      | none => none
    | none => none
  | .cell x t :: r => match A.get x with
    | some p => match loadB E.L H t p with
      | some v => match resL E A H r with
        | some l => some (v :: l)
        | none => none
      | none => none
    | none => none

def retB (H : Hp) : Option (List LV) → Option VH
  | some l => match l with
    | [] => some ⟨.tup [], H⟩
    | v :: r => match r with
      | [] => some ⟨v, H⟩
      | _ :: _ => some ⟨.tup (v :: r), H⟩
  | none => none

def endB (E : Env) (rs : List ResultVar) : Option Res → Option VH
  | some r => match r.e with
    | .normal => retB r.H (resL E r.A r.H rs)
    | .ret => retB r.H (resL E r.A r.H rs)
    | _ => none
  | none => none

def callRun (E : Env) (P : Program) (kn : Nat → List LV → Option LV) (ih : Ih) : CallF := fun g args H => match kn g args with
  | some v => some ⟨v, H⟩
  | none => match P.funcs[g]? with
    | some fn => match fn.body with
      | some c => match Nat.ble args.length fn.ntmps && Nat.ble args.length 60000 with
        | true => endB E fn.results.toList (ih g fn.ntmps (.code c) (slotsT 0 args .e) H)
        | false => none
      | none => none
    | none => none

def seqB (ih : Ih) (f n : Nat) (y : Code) : Option Res → Option Res
  | some r => match r.e with
    | .normal => ih f n (.code y) r.A r.H
    | .exit i => some ⟨.exit i, r.A, r.H⟩
    | .goto l => some ⟨.goto l, r.A, r.H⟩
    | .ret => some ⟨.ret, r.A, r.H⟩
    | _ => none
  | none => none

def condB (ih : Ih) (f n : Nat) (x : Operand) (y z : Code) (A : Ft) (H : Hp) : Option Res := match evB A x with
  | some v => match v with
    | .bool b => match b with
      | true => ih f n (.code y) A H
      | false => ih f n (.code z) A H
    | _ => none
  | none => none

def blockB (id : Nat) : Option Res → Option Res
  | some r => match r.e with
    | .normal => some ⟨.normal, r.A, r.H⟩
    | .exit i => match Nat.beq i id with
      | true => some ⟨.normal, r.A, r.H⟩
      | false => some ⟨.exit i, r.A, r.H⟩
    | .goto l => some ⟨.goto l, r.A, r.H⟩
    | .ret => some ⟨.ret, r.A, r.H⟩
    | _ => none
  | none => none

def roundB (ih : Ih) (f n : Nat) (c : Code) : Option Res → Option Res
  | some r => match r.e with
    | .normal => ih f n (.round c) r.A r.H
    | .exit i => some ⟨.exit i, r.A, r.H⟩
    | .goto l => some ⟨.goto l, r.A, r.H⟩
    | .ret => some ⟨.ret, r.A, r.H⟩
    | _ => none
  | none => none

def insideB (ih : Ih) (f n : Nat) (body : Code) : Option Res → Option Res
  | some r => match r.e with
    | .normal => some ⟨.normal, r.A, r.H⟩
    | .exit i => some ⟨.exit i, r.A, r.H⟩
    | .goto l => match findLabel body l with
      | some rest => ih f n (.inside body rest) r.A r.H
      | none => some ⟨.goto l, r.A, r.H⟩
    | .ret => some ⟨.ret, r.A, r.H⟩
    | _ => none
  | none => none

def codeB (E : Env) (P : Program) (dt : Dt) (kn : Nat → List LV → Option LV) (ih : Ih) (f n : Nat) (c : Code) (A : Ft) (H : Hp) : Option Res := match c with
  | .skip => some ⟨.normal, A, H⟩
  | .label _ => some ⟨.normal, A, H⟩
  | .ret => some ⟨.ret, A, H⟩
  | .exit id => some ⟨.exit id, A, H⟩
  | .goto l => some ⟨.goto l, A, H⟩
  | .region id ops draw => match draw with
    | false => resAH (runB E (callRun E P kn ih) n ops.toList ops.toList A H)
    | true => match dt f id with
      | some p => resAH (drawB E (callRun E P kn ih) n (reo p.2.2.2 ops.toList) p A H)
      | none => none
  | .seq x y => seqB ih f n y (ih f n (.code x) A H)
  | .cond x y z => condB ih f n x y z A H
  | .block id x => blockB id (ih f n (.code x) A H)
  | .loop x => ih f n (.round x) A H
  | .scope x => ih f n (.inside x x) A H
  | _ => none

def stepT (E : Env) (P : Program) (dt : Dt) (kn : Nat → List LV → Option LV) (ih : Ih) : Ih := fun f n t A H => match t with
  | .code c => codeB E P dt kn ih f n c A H
  | .round c => roundB ih f n c (ih f n (.code c) A H)
  | .inside body c => insideB ih f n body (ih f n (.code c) A H)

/-- Tasks, with so much fuel. -/
noncomputable def taskB (E : Env) (P : Program) (dt : Dt) (kn : Nat → List LV → Option LV) (fuel : Nat) : Ih :=
  Nat.rec (motive := fun _ => Ih) (fun _ _ _ _ _ => none) (fun _ ih => stepT E P dt kn ih) fuel

end Den
/- Den, part 32: the layer carried out: what is carried out holds. -/
set_option linter.unusedSimpArgs false
set_option linter.unusedVariables false
namespace Den
open Go

/-- All names are small. -/
def smallDst (ops : List Oper) : Bool := ops.all fun o => match o.dst with
  | some d => Nat.blt d 60000
  | none => true

def okCode (E : Env) (dt : Dt) (f : Nat) : Code → Bool
  | .region id ops draw => match draw with
    | false => true
    | true => match dt f id with
      | some p => statOk E (reo p.2.2.2 ops.toList) p.1 p.2.1 p.2.2.1 && covered E p.1 0 (reo p.2.2.2 ops.toList) && smallDst (reo p.2.2.2 ops.toList) && permOk p.2.2.2 ops.size
      | none => true
  | .seq x y => okCode E dt f x && okCode E dt f y
  | .cond _ y z => okCode E dt f y && okCode E dt f z
  | .block _ x => okCode E dt f x
  | .loop x => okCode E dt f x
  | .scope x => okCode E dt f x
  | _ => true

theorem okCode_label {E : Env} {dt : Dt} {f l : Nat} : ∀ (c : Code) (r : Code), okCode E dt f c = true → findLabel c l = some r → okCode E dt f r = true := by
  intro c
  induction c with
  | seq x y ihx ihy =>
    intro r h hl
    simp only [okCode, Bool.and_eq_true] at h
    simp only [findLabel] at hl
    split at hl
    · rename_i rest hr
      injection hl with hl; subst hl
      simp only [okCode, Bool.and_eq_true]
      exact ⟨ihx _ h.1 hr, h.2⟩
    · exact ihy _ h.2 hl
  | label l' =>
    intro r h hl
    simp only [findLabel] at hl
    split at hl
    · injection hl with hl; subst hl; rfl
    · cases hl
  | _ => intro r h hl; simp [findLabel] at hl

section
variable {P : Program} {E : Env} {dt : Dt} {kn : Nat → List LV → Option LV}

/-- What is carried out holds. -/
structure IhOk (P : Program) (E : Env) (dt : Dt) (ih : Ih) : Prop where
  code : ∀ f n c A B H r n0 Q, ih f n (.code c) B H = some r → okCode E dt f c = true → FrEq A B → A.n = n → (∀ A', FrEq A' r.A → A'.n = n → Q r.e A' r.H.ls) → WpS P n0 c Q A H.ls
  round : ∀ f n c A B H r n0 Q, ih f n (.round c) B H = some r → okCode E dt f c = true → FrEq A B → A.n = n → (∀ A', FrEq A' r.A → A'.n = n → Q r.e A' r.H.ls) → WpR P n0 c Q A H.ls
  inside : ∀ f n body c A B H r n0 Q, ih f n (.inside body c) B H = some r → okCode E dt f body = true → okCode E dt f c = true → FrEq A B → A.n = n → (∀ A', FrEq A' r.A → A'.n = n → Q r.e A' r.H.ls) → WpIn P n0 body c Q A H.ls

theorem resL_ok {A : Fr} {B : Ft} {H : Hp} (hA : FrEq A B) : ∀ (rs : List ResultVar) {l : List LV} {K : List LV → Prop}, resL E B H rs = some l → K l → resK E.L A H.ls rs K
  | [], l, K, h, hK => by simp only [resL] at h; injection h with h; subst h; exact hK
  | .tmp t :: r, l, K, h, hK => by
    simp only [resL] at h
    split at h
    case h_2 => cases h
    rename_i v hv
    split at h
    case h_2 => cases h
    rename_i l' hl'
    injection h with h; subst h
    simp only [resK]
    rw [hA t, hv]
    exact resL_ok hA r hl' hK
  | .cell x t :: r, l, K, h, hK => by
    simp only [resL] at h
    split at h
    case h_2 => cases h
    rename_i p hp
    split at h
    case h_2 => cases h
    rename_i v hv
    split at h
    case h_2 => cases h
    rename_i l' hl'
    injection h with h; subst h
    simp only [resK]
    rw [hA x, hp]
    exact loadB_ok (K := fun v => resK E.L A H.ls r fun vs => K (v :: vs)) hv (resL_ok hA r hl' hK)

theorem retB_ok {H : Hp} {o : Option (List LV)} {r : VH} (h : retB H o = some r) : ∃ l, o = some l ∧ r.H = H ∧ ∀ K : LV → Prop, K r.v → retK K l := by
  cases o with
  | none => cases h
  | some l =>
    refine ⟨l, rfl, ?_⟩
    simp only [retB] at h
    split at h
    · injection h with h; subst h; exact ⟨rfl, fun K hK => hK⟩
    · rename_i v r'
      split at h
      · injection h with h; subst h; exact ⟨rfl, fun K hK => hK⟩
      · injection h with h; subst h; exact ⟨rfl, fun K hK => hK⟩

theorem slotsT_eq (n : Nat) : ∀ (vs : List LV) (i : Nat) (B : Ft), i + vs.length ≤ 60000 → ∀ t, (slotsT i vs B).get t = (match look t (slots i vs) with | some v => some v | none => B.get t)
  | [], i, B, _, t => rfl
  | v :: r, i, B, h, t => by
    simp only [List.length_cons] at h
    simp only [slotsT, slots, look]
    rw [slotsT_eq n r (i + 1) _ (by omega) t, Tr.get_put (some v) 16 B i (by omega) t]
    cases hb : Nat.beq i t with
    | true =>
      have := Nat.eq_of_beq_eq_true hb
      subst this
      cases hl : look i (slots (i + 1) r) with
      | none => simp
      | some u => have := (look_slots r (i + 1) i u hl).1; omega
    | false =>
      have : t ≠ i := fun e => by subst e; simp at hb
      simp [this]

theorem slotsT_fr {vs : List LV} (n : Nat) (h : vs.length ≤ 60000) : FrEq ⟨n, slots 0 vs⟩ (slotsT 0 vs .e) := by
  intro t
  rw [slotsT_eq n vs 0 .e (by omega) t]
  show look t (slots 0 vs) = _
  cases look t (slots 0 vs) <;> rfl

/-- A call that is carried out holds. -/
theorem callRun_ok (hE : EnvOk P E) (hH : ∀ g args s v s', Holds P g args s v s' → E.H g args s v s') (hkn : ∀ g args v, kn g args = some v → ∀ s, Holds P g args s v s)
    (hok : ∀ (g : Nat) fn c, P.funcs[g]? = some fn → fn.body = some c → okCode E dt g c = true ∧ (fn.name == "runtime.NumGoroutine") = false) {ih : Ih} (hI : IhOk P E dt ih) : CallsOk E (callRun E P kn ih) := by
  intro g args H r h
  refine hH _ _ _ _ _ ?_
  unfold callRun at h
  split at h
  · rename_i v hv
    injection h with h; subst h
    exact hkn g args v hv _
  · split at h
    case h_2 => cases h
    rename_i fn hfn
    split at h
    case h_2 => cases h
    rename_i c hc
    split at h
    case h_2 => cases h
    rename_i hb
    simp only [Bool.and_eq_true] at hb
    have hb1 := Nat.le_of_ble_eq_true hb.1
    have hb2 := Nat.le_of_ble_eq_true hb.2
    obtain ⟨hoc, hname⟩ := hok g fn c hfn hc
    cases hr : ih g fn.ntmps (.code c) (slotsT 0 args .e) H with
    | none => rw [hr] at h; cases h
    | some q =>
      rw [hr] at h
      refine Holds.of_wpZ hE hfn hc hname hb1 (fun s' u => u = r.v ∧ s' = r.H.ls) ?_ (hI.code g fn.ntmps c ⟨fn.ntmps, slots 0 args⟩ _ H q H.ls.next _ hr hoc (slotsT_fr fn.ntmps hb2) rfl ?_)
      · rintro c0 c u u' hs hrel hx hres hu ⟨rfl, hs'⟩
        rw [← hs']
        exact ⟨c.ι, hrel, hx, hu⟩
      · intro A' hA' hn'
        simp only [endB] at h
        split at h
        · rename_i he
          obtain ⟨l, h1, h2, h3⟩ := retB_ok h
          rw [he]
          exact resL_ok hA' _ h1 (h3 _ ⟨rfl, h2 ▸ rfl⟩)
        · rename_i he
          obtain ⟨l, h1, h2, h3⟩ := retB_ok h
          rw [he]
          exact resL_ok hA' _ h1 (h3 _ ⟨rfl, h2 ▸ rfl⟩)
        · cases h

end
end Den
/- Den, part 33: the layer carried out: tasks. -/
set_option linter.unusedSimpArgs false
set_option linter.unusedVariables false
namespace Den
open Go

section
variable {P : Program} {E : Env} {dt : Dt} {kn : Nat → List LV → Option LV}

def dstsOf (ops : List Oper) (fl : List Nat) : List Nat := fl.filterMap fun i => match nth ops i with
  | some o => o.dst
  | none => none

theorem smallDst_get {ops : List Oper} (h : smallDst ops = true) {i d : Nat} {o : Oper} (ho : nth ops i = some o) (hd : o.dst = some d) : d < 60000 := by
  rw [nth_eq] at ho
  have := List.all_eq_true.1 h o (List.mem_of_getElem? ho)
  rw [hd] at this
  exact (blt_iff _ _).1 this

theorem wipeT_get {ops : List Oper} (h : smallDst ops = true) : ∀ (fl : List Nat) (B : Ft) (t : Nat), (wipeT ops fl B).get t = if (dstsOf ops fl).contains t = true then none else B.get t
  | [], B, t => by simp [wipeT, dstsOf]
  | f :: r, B, t => by
    simp only [wipeT]
    rw [wipeT_get h r]
    cases ho : nth ops f with
    | none => simp [dstsOf, ho]
    | some o =>
      simp only
      cases hd : o.dst with
      | none => simp [dstsOf, ho, hd]
      | some d =>
        simp only
        rw [Tr.get_put none 16 B d (by have := smallDst_get h ho hd; omega) t]
        have e : dstsOf ops (f :: r) = d :: dstsOf ops r := by simp [dstsOf, ho, hd]
        rw [e]
        by_cases e2 : t = d
        · subst e2; simp
        · simp [e2]

theorem wipeT_fr {A : Fr} {B : Ft} {ops : List Oper} (h : smallDst ops = true) (hA : FrEq A B) (fl : List Nat) : FrEq (A.wipe ops fl) (wipeT ops fl B) := by
  intro t
  rw [wipeT_get h]
  cases fl with
  | nil => simp [dstsOf, Fr.wipe]; exact hA t
  | cons f r =>
    show look t (wipeL _ A.l) = _
    rw [look_wipe]
    have : look t A.l = B.get t := hA t
    rw [this]
    rfl

theorem resAH_some {o : Option AH} {r : Res} (h : resAH o = some r) : ∃ q, o = some q ∧ r = ⟨.normal, q.A, q.H⟩ := by
  cases o with
  | none => cases h
  | some q => injection h with h; exact ⟨q, rfl, h.symm⟩

theorem runB_drB {C : CallF} {n : Nat} {ops : List Oper} : ∀ (rest : List Oper) (B : Ft) (H : Hp) (tr : List RecB) (r : AH), runB E C n ops rest B H = some r → ∃ tr', drB E C n ops rest B H tr = some (tr', r) := by
  intro rest
  induction rest with
  | nil => intro B H tr r h; simp only [runB] at h; injection h with h; subst h; exact ⟨tr, rfl⟩
  | cons o rest ih =>
    intro B H tr r h
    simp only [runB] at h
    simp only [drB]
    split at h
    case h_2 => cases h
    rename_i b hg
    cases b with
    | true =>
      simp only at h
      split at h
      case h_2 => cases h
      rename_i p hp
      split at h
      case h_2 => cases h
      rename_i A' hA'
      simp only [hg, hp, hA']
      exact ih _ _ _ _ h
    | false =>
      simp only at h
      split at h
      case h_2 => cases h
      rename_i A' hA'
      simp only [hg, hA']
      exact ih _ _ _ _ h

theorem drawB_ok (hE : EnvOk P E) {C : CallF} (hC : CallsOk E C) {n n0 id : Nat} {ops : Array Oper} {p : Pl} {A : Fr} {B : Ft} {H : Hp} {r : AH} {Q : Exit → Fr → LS → Prop}
    (h : drawB E C n (reo p.2.2.2 ops.toList) p B H = some r) (hst : statOk E (reo p.2.2.2 ops.toList) p.1 p.2.1 p.2.2.1 = true) (hcov : covered E p.1 0 (reo p.2.2.2 ops.toList) = true) (hsm : smallDst (reo p.2.2.2 ops.toList) = true) (hpm : permOk p.2.2.2 ops.size = true)
    (hA : FrEq A B) (hn : A.n = n) (hQ : ∀ A', FrEq A' r.A → A'.n = n → Q .normal A' r.H.ls) : WpS P n0 (.region id ops true) Q A H.ls := by
  have hw := wipeT_fr hsm hA p.2.1
  have hwn : (A.wipe (reo p.2.2.2 ops.toList) p.2.1).n = n := by rw [Fr.wipe_n]; exact hn
  refine wpS_draw_reo hE p.1 p.2.1 p.2.2.1 p.2.2.2 hpm hst hcov ?_
  unfold drawB at h
  split at h
  · rename_i hu
    obtain ⟨tr', h'⟩ := runB_drB _ _ _ [] _ h
    refine drB_ok hC _ 0 _ _ H [] [] _ hw hwn trivial h' fun tr2 A' ht hA' hn' => ⟨?_, hQ A' hA' hn'⟩
    rw [hu]; trivial
  · rename_i u un hu
    split at h
    case h_2 => cases h
    rename_i q hq
    split at h
    case h_2 => cases h
    rename_i hd
    injection h with h; subst h
    refine drB_ok hC _ 0 _ _ H [] [] _ hw hwn trivial hq fun tr2 A' ht hA' hn' => ⟨?_, hQ A' hA' hn'⟩
    rw [hu]
    exact demB_ok hC ht hd

end
end Den
/- Den, part 34: the layer carried out: the whole. -/
set_option linter.unusedSimpArgs false
set_option linter.unusedVariables false
namespace Den
open Go

section
variable {P : Program} {E : Env} {dt : Dt} {kn : Nat → List LV → Option LV}

theorem codeB_ok (hE : EnvOk P E) {ih : Ih} (hI : IhOk P E dt ih) (hC : CallsOk E (callRun E P kn ih)) {f n : Nat} {c : Code} {A : Fr} {B : Ft} {H : Hp} {r : Res} {n0 : Nat} {Q : Exit → Fr → LS → Prop}
    (h : codeB E P dt kn ih f n c B H = some r) (hok : okCode E dt f c = true) (hA : FrEq A B) (hn : A.n = n) (hQ : ∀ A', FrEq A' r.A → A'.n = n → Q r.e A' r.H.ls) : WpS P n0 c Q A H.ls := by
  cases c with
  | skip => simp only [codeB] at h; injection h with h; subst h; exact wpL_sound hE _ _ _ _ (hQ A hA hn)
  | label l => simp only [codeB] at h; injection h with h; subst h; exact wpL_sound hE (.label l) _ _ _ (hQ A hA hn)
  | ret => simp only [codeB] at h; injection h with h; subst h; exact wpL_sound hE .ret _ _ _ (hQ A hA hn)
  | exit id => simp only [codeB] at h; injection h with h; subst h; exact wpL_sound hE (.exit id) _ _ _ (hQ A hA hn)
  | goto l => simp only [codeB] at h; injection h with h; subst h; exact wpL_sound hE (.goto l) _ _ _ (hQ A hA hn)
  | region id ops draw =>
    cases draw with
    | false =>
      simp only [codeB] at h
      obtain ⟨q, hq, rfl⟩ := resAH_some h
      exact wpL_sound hE (.region id ops false) _ _ _ (runB_ok hC ops.toList 0 A B H q hA hn hq hQ)
    | true =>
      simp only [codeB] at h
      simp only [okCode] at hok
      split at h
      case h_2 => cases h
      rename_i p hp
      rw [hp] at hok
      simp only [Bool.and_eq_true] at hok
      obtain ⟨q, hq, rfl⟩ := resAH_some h
      exact drawB_ok hE hC hq hok.1.1.1 hok.1.1.2 hok.1.2 hok.2 hA hn hQ
  | seq x y =>
    simp only [codeB] at h
    simp only [okCode, Bool.and_eq_true] at hok
    cases hx : ih f n (.code x) B H with
    | none => rw [hx] at h; cases h
    | some q =>
      rw [hx] at h
      simp only [seqB] at h
      intro c0 c a h0 hs hi
      refine wp_seq (wp_mono (hI.code f n x A B H q n0 (fun e A' s' => e = q.e ∧ s' = q.H.ls ∧ FrEq A' q.A ∧ A'.n = n) hx hok.1 hA hn (fun A' h1 h2 => ⟨rfl, rfl, h1, h2⟩) c0 c a h0 hs hi) ?_)
      rintro e a' w' ⟨c', A', rfl, hi', rfl, hs', hA', hn'⟩
      split at h
      · rename_i he
        rw [he]
        exact hI.code f n y A' q.A q.H r n0 Q h hok.2 hA' hn' hQ c0 c' a' h0 hs' hi'
      · rename_i he
        injection h with h; subst h
        rw [he]
        exact ⟨c', A', rfl, hi', by rw [hs']; exact hQ A' hA' hn'⟩
      · rename_i he
        injection h with h; subst h
        rw [he]
        exact ⟨c', A', rfl, hi', by rw [hs']; exact hQ A' hA' hn'⟩
      · rename_i he
        injection h with h; subst h
        rw [he]
        exact ⟨c', A', rfl, hi', by rw [hs']; exact hQ A' hA' hn'⟩
      · cases h
  | cond x y z =>
    simp only [codeB, condB] at h
    simp only [okCode, Bool.and_eq_true] at hok
    split at h
    case h_2 => cases h
    rename_i v hv
    split at h
    case h_2 => cases h
    rename_i b
    intro c0 c a h0 hs hi
    have hvv := ev_sound hi.ar ((evB_eq hA x).trans hv)
    generalize hb : a.eval x = b' at hvv
    cases hvv
    refine wp_cond hb ?_
    cases b with
    | true => exact hI.code f n y A B H r n0 Q h hok.1 hA hn hQ c0 c a h0 hs hi
    | false => exact hI.code f n z A B H r n0 Q h hok.2 hA hn hQ c0 c a h0 hs hi
  | block id x =>
    simp only [codeB] at h
    simp only [okCode] at hok
    cases hx : ih f n (.code x) B H with
    | none => rw [hx] at h; cases h
    | some q =>
      rw [hx] at h
      simp only [blockB] at h
      intro c0 c a h0 hs hi
      refine wp_block (wp_mono (hI.code f n x A B H q n0 (fun e A' s' => e = q.e ∧ s' = q.H.ls ∧ FrEq A' q.A ∧ A'.n = n) hx hok hA hn (fun A' h1 h2 => ⟨rfl, rfl, h1, h2⟩) c0 c a h0 hs hi) ?_)
      rintro e a' w' ⟨c', A', rfl, hi', rfl, hs', hA', hn'⟩
      split at h
      · rename_i he
        injection h with h; subst h
        rw [he]
        exact ⟨c', A', rfl, hi', by rw [hs']; exact hQ A' hA' hn'⟩
      · rename_i i he
        rw [he]
        simp only [Exit.inBlock]
        split at h
        · rename_i hb
          injection h with h; subst h
          rw [if_pos (Nat.eq_of_beq_eq_true hb)]
          exact ⟨c', A', rfl, hi', by rw [hs']; exact hQ A' hA' hn'⟩
        · rename_i hb
          injection h with h; subst h
          rw [if_neg (fun e => by rw [e] at hb; simp at hb)]
          exact ⟨c', A', rfl, hi', by rw [hs']; exact hQ A' hA' hn'⟩
      · rename_i he
        injection h with h; subst h
        rw [he]
        exact ⟨c', A', rfl, hi', by rw [hs']; exact hQ A' hA' hn'⟩
      · rename_i he
        injection h with h; subst h
        rw [he]
        exact ⟨c', A', rfl, hi', by rw [hs']; exact hQ A' hA' hn'⟩
      · cases h
  | loop x =>
    simp only [codeB] at h
    simp only [okCode] at hok
    exact WpS.of_round (hI.round f n x A B H r n0 Q h hok hA hn hQ)
  | scope x =>
    simp only [codeB] at h
    simp only [okCode] at hok
    exact WpS.of_in (hI.inside f n x x A B H r n0 Q h hok hok hA hn hQ)
  | rangeFunc g ps x y => cases h
  | refuse w => cases h

theorem stepT_ok (hE : EnvOk P E) {ih : Ih} (hI : IhOk P E dt ih) (hC : CallsOk E (callRun E P kn ih)) : IhOk P E dt (stepT E P dt kn ih) where
  code f n c A B H r n0 Q h hok hA hn hQ := codeB_ok hE hI hC h hok hA hn hQ
  round f n c A B H r n0 Q h hok hA hn hQ := by
    simp only [stepT] at h
    cases hx : ih f n (.code c) B H with
    | none => rw [hx] at h; cases h
    | some q =>
      rw [hx] at h
      simp only [roundB] at h
      refine WpR.step (hI.code f n c A B H q n0 _ hx hok hA hn fun A' hA' hn' => ?_)
      split at h
      · rename_i he
        rw [he]
        exact hI.round f n c A' q.A q.H r n0 Q h hok hA' hn' hQ
      · rename_i he
        injection h with h; subst h
        rw [he]; exact hQ A' hA' hn'
      · rename_i he
        injection h with h; subst h
        rw [he]; exact hQ A' hA' hn'
      · rename_i he
        injection h with h; subst h
        rw [he]; exact hQ A' hA' hn'
      · cases h
  inside f n body c A B H r n0 Q h hokb hok hA hn hQ := by
    simp only [stepT] at h
    cases hx : ih f n (.code c) B H with
    | none => rw [hx] at h; cases h
    | some q =>
      rw [hx] at h
      simp only [insideB] at h
      refine WpIn.step (hI.code f n c A B H q n0 _ hx hok hA hn fun A' hA' hn' => ?_)
      split at h
      · rename_i he
        injection h with h; subst h
        rw [he]; exact hQ A' hA' hn'
      · rename_i he
        injection h with h; subst h
        rw [he]; exact hQ A' hA' hn'
      · rename_i l he
        rw [he]
        simp only [inScope]
        split at h
        · rename_i rest hl
          rw [hl]
          exact hI.inside f n body rest A' q.A q.H r n0 Q h hokb (okCode_label body rest hokb hl) hA' hn' hQ
        · rename_i hl
          rw [hl]
          injection h with h; subst h
          exact hQ A' hA' hn'
      · rename_i he
        injection h with h; subst h
        rw [he]; exact hQ A' hA' hn'
      · cases h

end
end Den
/- Den, part 35: the layer carried out: calls, results. -/
set_option linter.unusedSimpArgs false
set_option linter.unusedVariables false
namespace Den
open Go

/-! ### Values that refer to nothing -/
mutual
def LV.bare : LV → Bool
  | .bool _ => true
  | .int _ _ => true
  | .flt _ _ => true
  | .cpx _ _ _ => true
  | .str _ => true
  | .nilp => true
  | .nils => true
  | .nilm => true
  | .nilf => true
  | .lit l _ => LV.bares l
  | .lptr e _ => LV.bare e
  | .agg l => LV.bares l
  | .tup l => LV.bares l
  | .fn _ l => LV.bares l
  | _ => false
def LV.bares : List LV → Bool
  | [] => true
  | x :: r => LV.bare x && LV.bares r
end

mutual
theorem LV.bare_refs : ∀ (x : LV), LV.bare x = true → Refs 0 x := by
  intro x h
  cases x with
  | bool b => exact .bool b
  | int k n => exact .int k n
  | flt k b => exact .flt k b
  | cpx k a b => exact .cpx k a b
  | str s => exact .str s
  | nilp => exact .nilp
  | nils => exact .nils
  | nilm => exact .nilm
  | nilf => exact .nilf
  | lit l f => exact .lit l f (LV.bares_refs l (by simpa [LV.bare] using h))
  | lptr e j => exact .lptr e j (LV.bare_refs e (by simpa [LV.bare] using h))
  | agg l => exact .agg l (LV.bares_refs l (by simpa [LV.bare] using h))
  | tup l => exact .tup l (LV.bares_refs l (by simpa [LV.bare] using h))
  | fn f l => exact .fn f l (LV.bares_refs l (by simpa [LV.bare] using h))
  | bptr _ _ => simp [LV.bare] at h
  | rptr _ _ _ _ => simp [LV.bare] at h
  | hsl _ _ _ _ => simp [LV.bare] at h
  | map _ => simp [LV.bare] at h
theorem LV.bares_refs : ∀ (x : List LV), LV.bares x = true → ∀ e ∈ x, Refs 0 e := by
  intro x h e he
  cases x with
  | nil => cases he
  | cons a r =>
    simp only [LV.bares, Bool.and_eq_true] at h
    rcases List.mem_cons.1 he with rfl | he
    · exact LV.bare_refs _ h.1
    · exact LV.bares_refs r h.2 e he
end

/-! ### Results told as values -/
def mapO {α β : Type} (F : α → Option β) : List α → Option (List β)
  | [] => some []
  | x :: r => match F x with
    | some y => match mapO F r with
      | some l => some (y :: l)
      | none => none
    | none => none

theorem mapO_get {α β : Type} {F : α → Option β} : ∀ {l : List α} {r : List β}, mapO F l = some r → r.length = l.length ∧ ∀ (i : Nat) x y, l[i]? = some x → r[i]? = some y → F x = some y
  | [], r, h => by simp only [mapO] at h; injection h with h; subst h; exact ⟨rfl, by simp⟩
  | x :: l, r, h => by
    simp only [mapO] at h
    split at h
    case h_2 => cases h
    rename_i y hy
    split at h
    case h_2 => cases h
    rename_i r' hr'
    injection h with h; subst h
    obtain ⟨h1, h2⟩ := mapO_get hr'
    refine ⟨by simp [h1], fun i a b ha hb => ?_⟩
    cases i with
    | zero => simp at ha hb; subst ha; subst hb; exact hy
    | succ i => simp at ha hb; exact h2 i a b ha hb

def frzB : Nat → Hp → LV → Option LV
  | 0, _, _ => none
  | f + 1, H, v => match v with
    | .bool b => some (.bool b)
    | .int k n => some (.int k n)
    | .flt k b => some (.flt k b)
    | .cpx k a b => some (.cpx k a b)
    | .str s => some (.str s)
    | .nilp => some .nilp
    | .nils => some .nils
    | .nilm => some .nilm
    | .nilf => some .nilf
    | .lit l fu => match mapO (frzB f H) l with
      | some l' => some (.lit l' fu)
      | none => none
    | .agg l => match mapO (frzB f H) l with
      | some l' => some (.agg l')
      | none => none
    | .tup l => match mapO (frzB f H) l with
      | some l' => some (.tup l')
      | none => none
    | .hsl id i n cc => match H.t.get id with
      | some o => match o with
        | .row es _ g => match g with
          | false => match mapO (frzB f H) ((es.drop i).take n) with
            | some l' => match Nat.beq l'.length n with
              | true => some (.lit l' (fullOf cc n))
              | false => none
            | none => none
          | true => none
        | _ => none
      | none => none
    | .bptr id j => match H.t.get id with
      | some o => match o with
        | .box v _ => match frzB f H v with
          | some u => some (.lptr u j)
          | none => none
        | _ => none
      | none => none
    | .lptr e j => match frzB f H e with
      | some u => some (.lptr u j)
      | none => none
    | _ => none

theorem frzB_ok {H : Hp} : ∀ (f : Nat) (v u : LV), frzB f H v = some u → Frz H.ls 0 (fun k => k) (fun _ => True) v u := by
  intro f
  induction f with
  | zero => intro v u h; cases h
  | succ f ih =>
    intro v u h
    have lst : ∀ {l l' : List LV}, mapO (frzB f H) l = some l' → l'.length = l.length ∧ ∀ (i : Nat) e u, l[i]? = some e → l'[i]? = some u → Frz H.ls 0 (fun k => k) (fun _ => True) e u := fun hm => by
      obtain ⟨h1, h2⟩ := mapO_get hm
      exact ⟨h1, fun i e u he hu => ih e u (h2 i e u he hu)⟩
    cases v <;> simp only [frzB] at h <;> first | (cases h; done) | skip
    case bool b => injection h with h; subst h; exact .bool b
    case int k n => injection h with h; subst h; exact .int k n
    case flt k b => injection h with h; subst h; exact .flt k b
    case cpx k a b => injection h with h; subst h; exact .cpx k a b
    case str s => injection h with h; subst h; exact .str s
    case nilp => injection h with h; subst h; exact .nilp
    case nils => injection h with h; subst h; exact .nils
    case nilm => injection h with h; subst h; exact .nilm
    case nilf => injection h with h; subst h; exact .nilf
    case bptr id j =>
      split at h
      case h_2 => cases h
      rename_i o ho
      split at h
      case h_2 => cases h
      rename_i v t
      split at h
      case h_2 => cases h
      rename_i u' hu'
      injection h with h; subst h
      exact .coldb id j v t u' ho trivial (ih _ _ hu')
    case hsl id i n cc =>
      split at h
      case h_2 => cases h
      rename_i o ho
      split at h
      case h_2 => cases h
      rename_i es t g
      split at h
      case h_2 => cases h
      split at h
      case h_2 => cases h
      rename_i l' hl'
      split at h
      case h_2 => cases h
      rename_i hb
      injection h with h; subst h
      have hlen := Nat.eq_of_beq_eq_true hb
      obtain ⟨h1, h2⟩ := lst hl'
      refine .cold id i n cc es t l' _ (fun h => h) ho trivial hlen fun j e u he hu => h2 j e u ?_ hu
      have hj : j < n := by rw [← hlen]; exact lt_len hu
      rw [List.getElem?_take, if_pos hj, List.getElem?_drop]; exact he
    case lit l fu =>
      split at h
      case h_2 => cases h
      rename_i l' hl'
      injection h with h; subst h
      obtain ⟨h1, h2⟩ := lst hl'
      exact .lit l l' fu fu (fun h => h) h1 h2
    case lptr e j =>
      split at h
      case h_2 => cases h
      rename_i u' hu'
      injection h with h; subst h
      exact .lptr e u' j (ih _ _ hu')
    case agg l =>
      split at h
      case h_2 => cases h
      rename_i l' hl'
      injection h with h; subst h
      obtain ⟨h1, h2⟩ := lst hl'
      exact .agg l l' h1 h2
    case tup l =>
      split at h
      case h_2 => cases h
      rename_i l' hl'
      injection h with h; subst h
      obtain ⟨h1, h2⟩ := lst hl'
      exact .tup l l' h1 h2

section
variable {P : Program} {E : Env} {dt : Dt} {kn : Nat → List LV → Option LV}

/-- What is asked of a program, once. -/
structure ProgOk (P : Program) (E : Env) (dt : Dt) : Prop where
  env : EnvOk P E
  hol : ∀ g args s v s', Holds P g args s v s' → E.H g args s v s'
  code : ∀ (g : Nat) fn c, P.funcs[g]? = some fn → fn.body = some c → okCode E dt g c = true ∧ (fn.name == "runtime.NumGoroutine") = false

theorem taskB_ok (hP : ProgOk P E dt) (hkn : ∀ g args v, kn g args = some v → ∀ s, Holds P g args s v s) : ∀ fuel, IhOk P E dt (taskB E P dt kn fuel) := by
  intro fuel
  induction fuel with
  | zero => exact ⟨(fun f n c A B H r n0 Q h => nomatch h), (fun f n c A B H r n0 Q h => nomatch h), (fun f n body c A B H r n0 Q h => nomatch h)⟩
  | succ fuel ih => exact stepT_ok hP.env ih (callRun_ok hP.env hP.hol hkn hP.code ih)

/-- A function's body, carried out from nothing, its result told as a value. -/
noncomputable def pureB (E : Env) (P : Program) (dt : Dt) (kn : Nat → List LV → Option LV) (fuel g : Nat) (args : List LV) : Option LV := match P.funcs[g]? with
  | some fn => match fn.body with
    | some c => match Nat.ble args.length fn.ntmps && Nat.ble args.length 60000 && LV.bares args with
      | true => match endB E fn.results.toList (taskB E P dt kn fuel g fn.ntmps (.code c) (slotsT 0 args .e) Hp.empty) with
        | some r => frzB 64 r.H r.v
        | none => none
      | false => none
    | none => none
  | none => none

theorem pureB_ok (hP : ProgOk P E dt) (hkn : ∀ g args v, kn g args = some v → ∀ s, Holds P g args s v s) {fuel g : Nat} {args : List LV} {v : LV} (hb : v.bare = true) (h : pureB E P dt kn fuel g args = some v) :
    ∀ s, Holds P g args s v s := by
  unfold pureB at h
  split at h
  case h_2 => cases h
  rename_i fn hfn
  split at h
  case h_2 => cases h
  rename_i c hc
  split at h
  case h_2 => cases h
  rename_i hbs
  simp only [Bool.and_eq_true] at hbs
  obtain ⟨⟨b1, b2⟩, b3⟩ := hbs
  have b1 := Nat.le_of_ble_eq_true b1
  have b2 := Nat.le_of_ble_eq_true b2
  obtain ⟨hoc, hname⟩ := hP.code g fn c hfn hc
  have hI := taskB_ok hP hkn fuel
  cases hr : taskB E P dt kn fuel g fn.ntmps (.code c) (slotsT 0 args .e) Hp.empty with
  | none => rw [hr] at h; cases h
  | some q =>
    rw [hr] at h
    split at h
    case h_2 => cases h
    rename_i r hend
    have hfz := frzB_ok 64 _ _ h
    intro s
    refine Holds.lift (Holds.of_wpZ hP.env hfn hc hname b1 (fun s' u => Frz s' 0 (fun k => k) (fun _ => True) u v) ?_
      (hI.code g fn.ntmps c ⟨fn.ntmps, slots 0 args⟩ _ Hp.empty q 0 _ hr hoc (slotsT_fr fn.ntmps b2) rfl ?_)) (LV.bares_refs args b3) (LV.bare_refs v hb) s
    · rintro c0 c u u' hs hrel hx hres hu hz
      have hR : ∀ id, c.R id → id < 0 := by
        have : c0.s.next = 0 := by rw [hs]; rfl
        rw [← this]; exact hres
      have hV := View.empty c.s (fun k => k)
      have hd : ∀ id, Dead LS.empty (fun k => k) id := fun id k o h => by simp [LS.empty] at h
      have e : (fun _ => True) = Dead LS.empty (fun k => k) := by funext id; exact propext ⟨fun _ => hd id, fun _ => trivial⟩
      rw [e] at hz
      exact ⟨fun k => c.ι k, hrel.view hV hR, hx.view (by rw [hs]; exact Nat.le_refl _) hV, VR.frz hrel hV hR hz hu⟩
    · intro A' hA' hn'
      simp only [endB] at hend
      split at hend
      · rename_i he
        obtain ⟨l, h1, h2, h3⟩ := retB_ok hend
        rw [he]
        exact resL_ok hA' _ h1 (h3 _ (by rw [← h2]; exact hfz))
      · rename_i he
        obtain ⟨l, h1, h2, h3⟩ := retB_ok hend
        rw [he]
        exact resL_ok hA' _ h1 (h3 _ (by rw [← h2]; exact hfz))
      · cases hend

end
end Den
/- Den, part 36: tables: layouts, regions whose order is drawn; what is asked of a program, once. -/
set_option linter.unusedSimpArgs false
set_option linter.unusedVariables false
namespace Den
open Go

theorem look_layOk {P : Program} {tab : List (Nat × Lay)} (h : tab.map (fun p => layOf P p.1) = tab.map (fun p => some p.2)) (look2 : Nat → Option Lay)
    (hl : ∀ t l, look2 t = some l → (t, l) ∈ tab) : LayOk P look2 := by
  intro t l ht
  have hm := hl t l ht
  obtain ⟨i, hi⟩ := List.getElem?_of_mem hm
  have := congrArg (·[i]?) h
  simpa [hi] using this

def layLook (t : Nat) : List (Nat × Lay) → Option Lay
  | [] => none
  | (k, v) :: r => bif Nat.beq k t then some v else layLook t r

theorem layLook_mem : ∀ {tab : List (Nat × Lay)} {t : Nat} {l : Lay}, layLook t tab = some l → (t, l) ∈ tab
  | [], t, l, h => by simp [layLook] at h
  | (k, v) :: r, t, l, h => by
    simp only [layLook] at h
    cases hb : Nat.beq k t with
    | true => rw [hb] at h; simp at h; subst h; rw [Nat.eq_of_beq_eq_true hb]; simp
    | false => rw [hb] at h; exact List.mem_cons_of_mem _ (layLook_mem h)

def goodRow (l : Lay) : Bool := Nat.blt 0 l.size && Nat.blt 0 l.bytes && Nat.beq l.zero.cells.length l.size

theorem layGood_of {tab : List (Nat × Lay)} (h : tab.all (fun p => goodRow p.2) = true) : LayGood (fun t => layLook t tab) := by
  intro t l ht
  have := List.all_eq_true.1 h _ (layLook_mem ht)
  simp [goodRow, Nat.blt] at this
  omega

def assoc {α : Type} (k : Nat) : List (Nat × α) → Option α
  | [] => none
  | (j, v) :: r => bif Nat.beq j k then some v else assoc k r

def tabLook2 (f id : Nat) (t : List (Nat × List (Nat × Pl))) : Option Pl := match assoc f t with
  | some l => assoc id l
  | none => none

def okFunc (E : Env) (dt : Dt) (i : Nat) (fn : Func) : Bool := match fn.body with
  | some c => okCode E dt i c && !(fn.name == "runtime.NumGoroutine")
  | none => true

def okFuncs (E : Env) (dt : Dt) : Nat → List Func → Bool
  | _, [] => true
  | i, fn :: r => okFunc E dt i fn && okFuncs E dt (i + 1) r

theorem okFuncs_get {E : Env} {dt : Dt} : ∀ {l : List Func} {i : Nat}, okFuncs E dt i l = true → ∀ (g : Nat) fn, l[g]? = some fn → okFunc E dt (i + g) fn = true
  | [], i, _, g, fn, hg => by simp at hg
  | x :: r, i, h, g, fn, hg => by
    simp only [okFuncs, Bool.and_eq_true] at h
    cases g with
    | zero => simp at hg; subst hg; exact h.1
    | succ g =>
      have := okFuncs_get h.2 g fn (by simpa using hg)
      rw [show i + (g + 1) = i + 1 + g by omega]; exact this

theorem okFuncs_spec {P : Program} {E : Env} {dt : Dt} (h : okFuncs E dt 0 P.funcs.toList = true) (g : Nat) (fn : Func) (c : Code) (hg : P.funcs[g]? = some fn) (hc : fn.body = some c) :
    okCode E dt g c = true ∧ (fn.name == "runtime.NumGoroutine") = false := by
  have := okFuncs_get h g fn (by simpa using hg)
  unfold okFunc at this
  rw [hc] at this
  simp only [Bool.and_eq_true, Bool.not_eq_true', Nat.zero_add] at this
  exact this

end Den
/- Den, part 37: an empty slice that may be nil, or not. -/
set_option linter.unusedSimpArgs false
set_option linter.unusedVariables false
namespace Den
open Go

section
variable {P : Program}

/-- What grew, and told nothing of what was, leaves all as it was. -/
theorem Rel.grow {X R : Nat → Prop} {ι : Nat → Nat × Nat} {s : LS} {w w' : World} (hr : Rel P ⟨X, R, ι, s, w⟩) (h1 : w.heap.size ≤ w'.heap.size)
    (h2 : ∀ b, b < w.heap.size → w'.heap[b]? = w.heap[b]?) (h3 : w'.os = w.os) (h4 : w'.tape = w.tape) (h5 : w'.output = w.output) : Rel P ⟨X, R, ι, s, w'⟩ ∧ Ext ⟨X, R, ι, s, w⟩ ⟨X, R, ι, s, w'⟩ := by
  have hEx : Ext ⟨X, R, ι, s, w⟩ ⟨X, R, ι, s, w'⟩ :=
    ⟨rfl, rfl, Nat.le_refl _, h1, fun id v t _ h => ⟨rfl, v, h⟩, fun id es t g _ h => ⟨es, g, h, Nat.le_refl _, .inl rfl, fun h => h⟩, fun id kv _ h => ⟨rfl, kv, h⟩, fun b _ h => h, fun b hb _ => h2 b hb, h3, h4, h5⟩
  refine ⟨⟨hr.lt, hr.res, fun id o h => Nat.lt_of_lt_of_le (hr.blt id o h) h1, hr.inj, hr.dis, fun b h => Nat.lt_of_lt_of_le (hr.xlt b h) h1, ?_, ?_, ?_⟩, hEx⟩
  · intro id v t h
    obtain ⟨cs, h1, h3, h4⟩ := hr.box id v t h
    exact ⟨cs, by show w'.heap[_]? = _; rw [h2 _ (hr.blt id _ h)]; exact h1, h3, fun j x x' hx hx' => (h4 j x x' hx hx').mono hEx⟩
  · intro id es t g h
    obtain ⟨cs, h1, h3, h4, h5, h6⟩ := hr.row id es t g h
    exact ⟨cs, by show w'.heap[_]? = _; rw [h2 _ (hr.blt id _ h)]; exact h1, h3, h4, h5, fun i e j x x' he hx hx' => (h6 i e j x x' he hx hx').mono hEx⟩
  · intro id kv h
    obtain ⟨es, cl, h1, h3, h4⟩ := hr.mp id kv h
    exact ⟨es, cl, by show w'.heap[_]? = _; rw [h2 _ (hr.blt id _ h)]; exact h1, h3, fun i p e hp he => by
      obtain ⟨h5, h6, h7⟩ := h4 i p e hp he
      exact ⟨h5.mono hEx, h6.mono hEx, h7⟩⟩

/-- A contract at an empty slice: nil, or not. -/
theorem Holds.empty {f : Nat} (h0 : ∀ s, Holds P f [.nils] s .nils s) (h1 : Holds P f [.hsl 0 0 0 (some 0)] ⟨fun _ => none, 1⟩ (.lit [] true) ⟨fun _ => none, 1⟩) (s : LS) :
    Holds P f [.lit [] true] s (.lit [] true) s := by
  refine ⟨h1.1, ?_⟩
  intro X R ι w args' hr hl hvv
  obtain ⟨x', rfl⟩ : ∃ x', args' = #[x'] := by
    obtain ⟨l⟩ := args'
    match l, hl with
    | [x], _ => exact ⟨x, rfl⟩
  have hx := hvv 0 _ x' rfl rfl
  have hform : ∃ a, x' = .slice a 0 0 := by
    cases hx with
    | lit0 a cc' _ hf ha => exact ⟨a, by rw [hf rfl]⟩
    | lit _ _ b o cc' esz vs n hlen hcap hf hz hb hsz hc hv => subst hlen; exact ⟨_, by rw [hf rfl]; rfl⟩
  obtain ⟨a, rfl⟩ := hform
  cases a with
  | none =>
    refine ((h0 s).2 X R ι w #[.slice none 0 0] hr rfl (fun i v v' hv hv' => ?_)).mono ?_
    · cases i with
      | zero => simp at hv hv'; subst hv; subst hv'; exact .nils
      | succ i => simp at hv
    · rintro e w' ⟨ι', v', rfl, hR, hE, hV⟩
      cases hV
      exact ⟨ι', _, rfl, hR, hE, .lit0 none 0 true (fun _ => rfl) (fun _ => rfl)⟩
  | some ad =>
    have hr0 : Rel P ⟨fun b => X b ∨ Cx.Lb ⟨X, R, ι, s, w⟩ b, fun _ => False, ι, ⟨fun _ => none, 1⟩, w⟩ := by
      refine ⟨?_, ?_, ?_, ?_, ?_, ?_, ?_, ?_, ?_⟩
      · intro id o h; cases h
      · intro id h; exact h.elim
      · intro id o h; cases h
      · intro id id' o o' h; cases h
      · rintro b _ ⟨id, o, h, _⟩; cases h
      · rintro b (h | ⟨id, o, h1, h2⟩)
        · exact hr.xlt b h
        · have := hr.blt id o h1; show b < w.heap.size; rw [← h2]; exact this
      · intro id v t h; cases h
      · intro id es t g h; cases h
      · intro id kv h; cases h
    refine (h1.2 (fun b => X b ∨ Cx.Lb ⟨X, R, ι, s, w⟩ b) (fun _ => False) ι w #[.slice (some ad) 0 0] hr0 rfl (fun i u u' hu hu' => ?_)).mono ?_
    · cases i with
      | zero =>
        simp at hu hu'; subst hu; subst hu'
        exact .hsl 0 0 0 (some 0) ad 0 ⟨Nat.one_pos, fun h => h⟩ (Nat.le_refl _) (by simp) (fun es t g h => by cases h)
      | succ i => simp at hu
    · rintro e w' ⟨ι', v', rfl, hR, hE, hV⟩
      obtain ⟨g1, g2⟩ := hr.grow hE.size (fun b hb => hE.same b hb (by rintro ⟨id, o, h, _⟩; cases h)) hE.os hE.tape hE.output
      refine ⟨ι, v', rfl, g1, g2, ?_⟩
      cases hV with
      | lit0 a cc' _ hf ha => exact .lit0 a cc' true hf ha
      | lit _ _ b o cc' esz vs n hlen hcap hf hz hb hsz hc hv => subst hlen; exact .lit0 _ _ true hf (fun h => by cases h)

variable {E : Env} {dt : Dt} {kn : Nat → List LV → Option LV}

/-- A call that is carried out holds, whatever it starts from. -/
theorem callB_ok (hP : ProgOk P E dt) (hkn : ∀ g args v, kn g args = some v → ∀ s, Holds P g args s v s) {fuel g : Nat} {args : List LV} {H : Hp} {r : VH} (h : callRun E P kn (taskB E P dt kn fuel) g args H = some r) :
    Holds P g args H.ls r.v r.H.ls :=
  hP.env.H _ _ _ _ _ (callRun_ok hP.env hP.hol hkn hP.code (taskB_ok hP hkn fuel) g args H r h)

end
end Den
/- Den, part 38: tables of calls that are known. -/
set_option linter.unusedSimpArgs false
set_option linter.unusedVariables false
namespace Den
open Go

/-- A call that is known: the function, its arguments, its result. -/
def KnE (P : Program) (e : Nat × List LV × LV) : Prop := ∀ s, Holds P e.1 e.2.1 s e.2.2 s

inductive KnOk (P : Program) : List (Nat × List LV × LV) → Prop
  | nil : KnOk P []
  | cons {e : Nat × List LV × LV} {r : List (Nat × List LV × LV)} (h : KnE P e) (k : KnOk P r) : KnOk P (e :: r)

def knFind (g : Nat) (args : List LV) : List (Nat × List LV × LV) → Option LV
  | [] => none
  | e :: r => bif Nat.beq e.1 g && LV.sames e.2.1 args then some e.2.2 else knFind g args r

/-- What is known, a table ahead of it. -/
def knTab (t : List (Nat × List LV × LV)) (kn : Nat → List LV → Option LV) (g : Nat) (args : List LV) : Option LV := match knFind g args t with
  | some v => some v
  | none => kn g args

theorem knFind_ok {P : Program} : ∀ {t : List (Nat × List LV × LV)}, KnOk P t → ∀ {g : Nat} {args : List LV} {v : LV}, knFind g args t = some v → ∀ s, Holds P g args s v s
  | [], _, g, args, v, h => by cases h
  | e :: r, h, g, args, v, hf => by
    cases h with
    | cons h k =>
      simp only [knFind] at hf
      cases hb : (Nat.beq e.1 g && LV.sames e.2.1 args) with
      | false => rw [hb] at hf; exact knFind_ok k hf
      | true =>
        rw [hb] at hf
        simp only [Bool.and_eq_true] at hb
        simp only [cond_true] at hf
        injection hf with hf; subst hf
        intro s
        have := h s
        rw [Nat.eq_of_beq_eq_true hb.1, LV.sames_eq _ _ hb.2] at this
        exact this

theorem knTab_ok {P : Program} {t : List (Nat × List LV × LV)} {kn : Nat → List LV → Option LV} (hk : ∀ g args v, kn g args = some v → ∀ s, Holds P g args s v s) (ht : KnOk P t) :
    ∀ g args v, knTab t kn g args = some v → ∀ s, Holds P g args s v s := by
  intro g args v h
  unfold knTab at h
  split at h
  · rename_i u hu
    injection h with h; subst h
    exact knFind_ok ht hu
  · exact hk g args v h

end Den
/- Den, part 39: from a contract to what a row asks. -/
set_option linter.unusedSimpArgs false
set_option linter.unusedVariables false
namespace Den
open Go Go.RowKit Go.WideShapes Go.ChangeShapes

/-- Nothing is told of the heap. -/
abbrev bare (w : World) : Cx := ⟨fun _ => False, fun _ => False, fun _ => (0, 0), LS.empty, w⟩

theorem Rel.bare {P : Program} (w : World) : Rel P (bare w) := by
  refine ⟨?_, ?_, ?_, ?_, ?_, ?_, ?_, ?_, ?_⟩
  · intro id o h; cases h
  · intro id h; exact h.elim
  · intro id o h; cases h
  · intro id id' o o' h; cases h
  · rintro b h; exact h.elim
  · rintro b h; exact h.elim
  · intro id v t h; cases h
  · intro id es t g h; cases h
  · intro id kv h; cases h

theorem bare_notZ (w : World) (b : Nat) : ¬ (bare w).Z b := by
  rintro (h | ⟨id, o, h, _⟩)
  · exact h
  · cases h

theorem Holds.below {P : Program} {f : Nat} {args : List LV} {b : Bool} {s' : LS} (h : Holds P f args LS.empty (.bool b) s') {w : World} {args' : Array Value} (hl : args'.size = args.length)
    (hv : ∀ (i : Nat) v v', args[i]? = some v → args'[i]? = some v' → VR P (bare w) v v') : Calls P f args' w fun e w' => e = .returned (.bool b) ∧ Below w.heap.size w w' := by
  refine (h.2 _ _ _ w args' (Rel.bare w) hl hv).mono ?_
  rintro e w' ⟨ι', v', rfl, hR, hE, hV⟩
  cases hV
  exact ⟨rfl, hE.os, hE.tape, hE.output, hE.size, fun b hb => hE.same b hb (by rintro ⟨id, o, h, _⟩; cases h)⟩

section
variable {H : Type} {enc : TypeId × Value → H} {P : Program}
/-- The row's last step, of a world of which no more is known than that nothing below has turned. -/
theorem post_of_below {f : Func} {s : ChangeSpec} {apart fresh handsOn again : Bool} {W W' : World} {args : Array Value} {v : Value} {ds gs : List (DataW H)} {before pa pv : List MemPlace}
    (hW : DataW.Whole enc P f.params.toList s.vars apart W args.toList ds gs before)
    (hres : ∀ (b : Nat) (sp : Nat → Bool) (hd : Bool), DataW.TrodAll enc P W' b sp hd f.resultTypes.toList (v.resultList f.resultTypes.size) (s.fn H (ds ++ gs)).results [])
    (hargs : ∀ sp : Nat → Bool, (∀ p ∈ before, sp p.block = true) → DataW.TrodAll enc P W' 0 sp true f.params.toList args.toList (s.fn H (ds ++ gs)).args pa)
    (hvars : ∀ sp : Nat → Bool, (∀ p ∈ before, sp p.block = true) → DataW.TrodVars enc P W' sp s.vars (s.fn H (ds ++ gs)).vars pv)
    (hps : before = pa ++ pv) (hb : Below W.heap.size W W')
    (hok : ∀ (j : Nat) (t : TypeId) (r : Value), f.resultTypes[j]? = some t → (v.resultList f.resultTypes.size)[j]? = some r → Value.okWide P W' .any 0 t r) :
    s.post enc P f apart fresh handsOn again W args v W' := by
  have hlt : ∀ p ∈ before, p.block < W.heap.size := fun p hp => hW.lt p hp
  have hold : ∀ p ∈ before, (fun b => decide (b < W.heap.size)) p.block = true := fun p hp => by simpa using hlt p hp
  refine ⟨ds, gs, before, [], pa, pv, hW, hres _ _ _, hargs _ hold, hvars _ hold, World.keptBut_mono (fun p hp => ⟨hp, ?_⟩) (hb.frame (· ∈ before)), fun _ => ?_⟩
  · rw [hps, List.mem_append] at hp
    exact Or.inr hp
  · obtain ⟨_, _, _, _, _, hz, hn⟩ := hW
    refine ⟨hok, _, _, ([] ++ pa) ++ pv, ⟨[] ++ pa, pv, trodAll_append (hargs _ (fun _ _ => rfl)) (hres _ _ _), hvars _ (fun _ _ => rfl), rfl, ?_, ?_⟩, ?_⟩
    · intro b off hp
      have hin : MemPlace.cell b off ∈ before := by rw [hps]; simpa using hp
      rw [hb.frozen (hlt _ hin)]
      exact hz b off hin
    · intro ha
      have := hn ha
      rw [hps] at this
      simpa using this
    · intro p hp _
      rw [hps]
      simpa using hp
end

end Den
