/- The layer 'Den': logical values and heaps told of the model's; what an operation, a piece of code, a call does to them; the layer carried out. No condition. -/
import Derived.WalkKit
import Derived.Laws.Append
import Derived.Laws.CopyRow
import Derived.Laws.Tables
import Derived.Orders
import Derived.Laws.IdiomStrings
import Derived.Laws.MakeOwn
import Derived.Laws.AppendOwn
import Derived.Scope
set_option linter.unusedSimpArgs false
set_option linter.unusedVariables false
/- Den, part 0: logical values and heaps, and what they say of the model's values and worlds. -/
namespace Den
open Go

/-- A logical value. -/
inductive LV where
  | bool (b : Bool)
  | int (k : IntKind) (n : Int)
  | flt (k : FloatKind) (bits : Nat)
  | cpx (k : FloatKind) (re im : Nat)
  | str (s : List UInt8)
  | nilp | nils | nilm | nilf
  | bptr (id j : Nat)
  | rptr (id i j len : Nat)
  | hsl (id i n : Nat) (cc : Option Nat)
  | lit (es : List LV) (full : Bool)
  | lptr (e : LV) (j : Nat)
  | agg (cs : List LV)
  | tup (vs : List LV)
  | fn (f : Nat) (cs : List LV)
  | map (id : Nat)
  deriving Inhabited

def LV.cells : LV → List LV
  | .agg cs => cs
  | v => [v]

inductive LObj where
  | box (v : LV) (t : TypeId)
  | row (es : List LV) (t : TypeId) (g : Bool)
  | mp (kv : List (LV × LV))

structure LS where
  get : Nat → Option LObj
  next : Nat

def LS.empty : LS := ⟨fun _ => none, 0⟩
def LS.upd (s : LS) (id : Nat) (o : LObj) : LS := { s with get := fun j => if j = id then some o else s.get j }
def LS.drop (s : LS) (id : Nat) : LS := { s with get := fun j => if j = id then none else s.get j }
def LS.alloc (s : LS) (o : LObj) : LS := { get := fun j => if j = s.next then some o else s.get j, next := s.next + 1 }

structure Cx where
  X : Nat → Prop
  R : Nat → Prop
  ι : Nat → Nat × Nat
  s : LS
  w : World

/-- What may be referred to. -/
def Cx.ok (c : Cx) (id : Nat) : Prop := id < c.s.next ∧ ¬ c.R id
/-- The blocks of what is alive. -/
def Cx.Lb (c : Cx) (b : Nat) : Prop := ∃ id o, c.s.get id = some o ∧ (c.ι id).1 = b
/-- The blocks that may still be written. -/
def Cx.Z (c : Cx) (b : Nat) : Prop := c.X b ∨ c.Lb b

/-- A logical value told of a value of the model. -/
inductive VR (P : Program) (c : Cx) : LV → Value → Prop
  | bool (b : Bool) : VR P c (.bool b) (.bool b)
  | int (k : IntKind) (n : Int) : VR P c (.int k n) (.int k n)
  | flt (k : FloatKind) (b : Nat) : VR P c (.flt k b) (.float k b)
  | cpx (k : FloatKind) (a b : Nat) : VR P c (.cpx k a b) (.complex k a b)
  | str (s : List UInt8) : VR P c (.str s) (.string ⟨⟨s⟩⟩)
  | nilp : VR P c .nilp (.pointer none)
  | nils : VR P c .nils (.slice none 0 0)
  | nilm : VR P c .nilm (.map none)
  | nilf : VR P c .nilf .nilFunc
  | bptr (id j : Nat) (a : Addr) (hn : c.ok id) (h : ∀ v t, c.s.get id = some (.box v t) → a = ⟨(c.ι id).1, j, none⟩) :
      VR P c (.bptr id j) (.pointer (some a))
  | rptr (id i j len : Nat) (a : Addr) (hn : c.ok id)
      (h : ∀ es t g, c.s.get id = some (.row es t g) → len ≤ es.length ∧ (g = false ∨ es.length = len → a = ⟨(c.ι id).1, i * P.cellsOf t + j, none⟩)) :
      VR P c (.rptr id i j len) (.pointer (some a))
  | hsl (id i n : Nat) (cc : Option Nat) (a : Addr) (cc' : Nat) (hn : c.ok id) (hcap : n ≤ cc') (hcc : ∀ k, cc = some k → cc' = k)
      (h : ∀ es t g, c.s.get id = some (.row es t g) → i + n ≤ es.length ∧ (g = false ∨ es.length = i + n → (0 < cc' → a = ⟨(c.ι id).1, i * P.cellsOf t, none⟩) ∧ i + cc' ≤ (c.ι id).2 ∧ (cc = none → i + cc' = (c.ι id).2))) :
      VR P c (.hsl id i n cc) (.slice (some a) n cc')
  | lit0 (a : Option Addr) (cc' : Nat) (full : Bool) (hf : full = true → cc' = 0) (ha : a = none → cc' = 0) : VR P c (.lit [] full) (.slice a 0 cc')
  | lit (es : List LV) (full : Bool) (b o cc' esz : Nat) (vs : Nat → Nat → Value) (n : Nat) (hlen : n = es.length) (hcap : n ≤ cc') (hf : full = true → cc' = n) (hz : ¬ c.Z b) (hb : b < c.w.heap.size)
      (hsz : ∀ (i : Nat) (e : LV), es[i]? = some e → e.cells.length = esz)
      (hc : ∀ (i : Nat) (e : LV) (j : Nat) (v : LV), es[i]? = some e → e.cells[j]? = some v → c.w.cell? ⟨b, o + (i * esz + j), none⟩ = some (vs i j))
      (hv : ∀ (i : Nat) (e : LV) (j : Nat) (v : LV), es[i]? = some e → e.cells[j]? = some v → VR P c v (vs i j)) :
      VR P c (.lit es full) (.slice (some ⟨b, o, none⟩) n cc')
  | lptr (e : LV) (j b o : Nat) (vs : Nat → Value) (hz : ¬ c.Z b) (hb : b < c.w.heap.size)
      (hc : ∀ (k : Nat) (v : LV), e.cells[k]? = some v → c.w.cell? ⟨b, o + k, none⟩ = some (vs k))
      (hv : ∀ (k : Nat) (v : LV), e.cells[k]? = some v → VR P c v (vs k)) :
      VR P c (.lptr e j) (.pointer (some ⟨b, o + j, none⟩))
  | agg (cs : List LV) (ds : Array Value) (hl : ds.size = cs.length) (hv : ∀ (i : Nat) v v', cs[i]? = some v → ds[i]? = some v' → VR P c v v') :
      VR P c (.agg cs) (.agg ds)
  | tup (cs : List LV) (ds : Array Value) (hl : ds.size = cs.length) (hv : ∀ (i : Nat) v v', cs[i]? = some v → ds[i]? = some v' → VR P c v v') :
      VR P c (.tup cs) (.tuple ds)
  | fn (f : Nat) (cs : List LV) (ds : Array Value) (hl : ds.size = cs.length) (hv : ∀ (i : Nat) v v', cs[i]? = some v → ds[i]? = some v' → VR P c v v') :
      VR P c (.fn f cs) (.func (.func f) #[] ds)
  | map (id r : Nat) (hn : c.ok id) (h : ∀ kv, c.s.get id = some (.mp kv) → r = (c.ι id).1) : VR P c (.map id) (.map (some r))

/-- What a later context keeps of an earlier one. -/
structure Ext (c c' : Cx) : Prop where
  X : c'.X = c.X
  R : c'.R = c.R
  next : c.s.next ≤ c'.s.next
  size : c.w.heap.size ≤ c'.w.heap.size
  box : ∀ id v' t', id < c.s.next → c'.s.get id = some (.box v' t') → c'.ι id = c.ι id ∧ ∃ v, c.s.get id = some (.box v t')
  row : ∀ id es' t' g', id < c.s.next → c'.s.get id = some (.row es' t' g') →
    ∃ es g, c.s.get id = some (.row es t' g) ∧ es.length ≤ es'.length ∧ (c'.ι id = c.ι id ∨ (g' = true ∧ es.length < es'.length)) ∧ (g = true → g' = true)
  mp : ∀ id kv', id < c.s.next → c'.s.get id = some (.mp kv') → c'.ι id = c.ι id ∧ ∃ kv, c.s.get id = some (.mp kv)
  zed : ∀ b, b < c.w.heap.size → c'.Lb b → c.Lb b
  same : ∀ b, b < c.w.heap.size → ¬ c.Lb b → c'.w.heap[b]? = c.w.heap[b]?
  os : c'.w.os = c.w.os
  tape : c'.w.tape = c.w.tape
  output : c'.w.output = c.w.output

theorem Ext.refl (c : Cx) : Ext c c where
  X := rfl
  R := rfl
  next := Nat.le_refl _
  size := Nat.le_refl _
  box _ v _ _ h := ⟨rfl, v, h⟩
  row _ es _ g _ h := ⟨es, g, h, Nat.le_refl _, .inl rfl, id⟩
  mp _ kv _ h := ⟨rfl, kv, h⟩
  zed _ _ h := h
  same _ _ _ := rfl
  os := rfl
  tape := rfl
  output := rfl

theorem Ext.trans {a b c : Cx} (h : Ext a b) (k : Ext b c) : Ext a c where
  X := k.X.trans h.X
  R := k.R.trans h.R
  next := Nat.le_trans h.next k.next
  size := Nat.le_trans h.size k.size
  box id v t hi hg := by
    obtain ⟨e1, v1, h1⟩ := k.box id v t (Nat.lt_of_lt_of_le hi h.next) hg
    obtain ⟨e2, v2, h2⟩ := h.box id v1 t hi h1
    exact ⟨e1.trans e2, v2, h2⟩
  row id es t g hi hg := by
    obtain ⟨es1, g1, h1, l1, i1, m1⟩ := k.row id es t g (Nat.lt_of_lt_of_le hi h.next) hg
    obtain ⟨es2, g2, h2, l2, i2, m2⟩ := h.row id es1 t g1 hi h1
    refine ⟨es2, g2, h2, by omega, ?_, fun x => m1 (m2 x)⟩
    rcases i1 with i1 | ⟨i1, j1⟩
    · rcases i2 with i2 | ⟨i2, j2⟩
      · exact .inl (i1.trans i2)
      · exact .inr ⟨m1 i2, by omega⟩
    · exact .inr ⟨i1, by omega⟩
  mp id kv hi hg := by
    obtain ⟨e1, v1, h1⟩ := k.mp id kv (Nat.lt_of_lt_of_le hi h.next) hg
    obtain ⟨e2, v2, h2⟩ := h.mp id v1 hi h1
    exact ⟨e1.trans e2, v2, h2⟩
  zed b hb hc := h.zed b hb (k.zed b (Nat.lt_of_lt_of_le hb h.size) hc)
  same b hb hc := (k.same b (Nat.lt_of_lt_of_le hb h.size) (fun hx => hc (h.zed b hb hx))).trans (h.same b hb hc)
  os := k.os.trans h.os
  tape := k.tape.trans h.tape
  output := k.output.trans h.output

theorem cell_same {w w' : World} {b o : Nat} (h : w'.heap[b]? = w.heap[b]?) : w'.cell? ⟨b, o, none⟩ = w.cell? ⟨b, o, none⟩ := by
  simp [World.cell?, h]

theorem Ext.notZ {c c' : Cx} (h : Ext c c') {b : Nat} (hb : b < c.w.heap.size) (hz : ¬ c.Z b) : ¬ c'.Z b := by
  intro hx
  rcases hx with hx | hx
  · exact hz (.inl (by rw [← h.X]; exact hx))
  · exact hz (.inr (h.zed b hb hx))

theorem Ext.ok {c c' : Cx} (h : Ext c c') {id : Nat} (hi : c.ok id) : c'.ok id := ⟨Nat.lt_of_lt_of_le hi.1 h.next, by rw [h.R]; exact hi.2⟩

theorem VR.mono {P : Program} {c c' : Cx} (hE : Ext c c') {v : LV} {v' : Value} (h : VR P c v v') : VR P c' v v' := by
  induction h with
  | bool b => exact .bool b
  | int k n => exact .int k n
  | flt k b => exact .flt k b
  | cpx k a b => exact .cpx k a b
  | str s => exact .str s
  | nilp => exact .nilp
  | nils => exact .nils
  | nilm => exact .nilm
  | nilf => exact .nilf
  | bptr id j a hn h =>
    refine .bptr id j a (hE.ok hn) fun v t hg => ?_
    obtain ⟨e, v0, h0⟩ := hE.box id v t hn.1 hg
    rw [e]; exact h v0 t h0
  | rptr id i j len a hn h =>
    refine .rptr id i j len a (hE.ok hn) fun es t g hg => ?_
    obtain ⟨es0, g0, h0, l0, i0, m0⟩ := hE.row id es t g hn.1 hg
    obtain ⟨hl, hh⟩ := h es0 t g0 h0
    refine ⟨by omega, fun hx => ?_⟩
    rcases i0 with i0 | ⟨i0, j0⟩
    · rw [i0]
      refine hh ?_
      rcases hx with hx | hx
      · cases g0 with
        | false => exact .inl rfl
        | true => have := m0 rfl; simp [hx] at this
      · exact .inr (by omega)
    · rcases hx with hx | hx
      · simp [hx] at i0
      · omega
  | hsl id i n cc a cc' hn hcap hcc h =>
    refine .hsl id i n cc a cc' (hE.ok hn) hcap hcc fun es t g hg => ?_
    obtain ⟨es0, g0, h0, l0, i0, m0⟩ := hE.row id es t g hn.1 hg
    obtain ⟨hl, hh⟩ := h es0 t g0 h0
    refine ⟨by omega, fun hx => ?_⟩
    rcases i0 with i0 | ⟨i0, j0⟩
    · rw [i0]
      refine hh ?_
      rcases hx with hx | hx
      · cases g0 with
        | false => exact .inl rfl
        | true => have := m0 rfl; simp [hx] at this
      · exact .inr (by omega)
    · rcases hx with hx | hx
      · simp [hx] at i0
      · omega
  | lit0 a cc' full hf ha => exact .lit0 a cc' full hf ha
  | lit es full b o cc' esz vs n hlen hcap hf hz hb hsz hc hv ih =>
    refine .lit es full b o cc' esz vs n hlen hcap hf (hE.notZ hb hz) (Nat.lt_of_lt_of_le hb hE.size) hsz (fun i e j v he hj => ?_) ih
    rw [cell_same (hE.same b hb (fun hx => hz (.inr hx)))]
    exact hc i e j v he hj
  | lptr e j b o vs hz hb hc hv ih =>
    refine .lptr e j b o vs (hE.notZ hb hz) (Nat.lt_of_lt_of_le hb hE.size) (fun k v hk => ?_) ih
    rw [cell_same (hE.same b hb (fun hx => hz (.inr hx)))]
    exact hc k v hk
  | agg cs ds hl hv ih => exact .agg cs ds hl ih
  | tup cs ds hl hv ih => exact .tup cs ds hl ih
  | fn f cs ds hl hv ih => exact .fn f cs ds hl ih
  | map id r hn h =>
    refine .map id r (hE.ok hn) fun kv hg => ?_
    obtain ⟨e, v0, h0⟩ := hE.mp id kv hn.1 hg
    rw [e]; exact h v0 h0

theorem VR.cells {P : Program} {c : Cx} {v : LV} {v' : Value} (h : VR P c v v') :
    v'.cells.size = v.cells.length ∧ ∀ (i : Nat) x x', v.cells[i]? = some x → v'.cells[i]? = some x' → VR P c x x' := by
  have one : ∀ (v : LV) (v' : Value), VR P c v v' → (∀ (i : Nat) x x', [v][i]? = some x → #[v'][i]? = some x' → VR P c x x') := by
    intro v v' h i x x' h1 h2
    cases i with
    | zero => simp at h1 h2; subst h1; subst h2; exact h
    | succ i => simp at h1
  cases h with
  | agg cs ds hl hv => exact ⟨hl, hv⟩
  | bool b => exact ⟨rfl, one _ _ (.bool b)⟩
  | int k n => exact ⟨rfl, one _ _ (.int k n)⟩
  | flt k b => exact ⟨rfl, one _ _ (.flt k b)⟩
  | cpx k a b => exact ⟨rfl, one _ _ (.cpx k a b)⟩
  | str s => exact ⟨rfl, one _ _ (.str s)⟩
  | nilp => exact ⟨rfl, one _ _ .nilp⟩
  | nils => exact ⟨rfl, one _ _ .nils⟩
  | nilm => exact ⟨rfl, one _ _ .nilm⟩
  | nilf => exact ⟨rfl, one _ _ .nilf⟩
  | bptr id j a hn h => exact ⟨rfl, one _ _ (.bptr id j a hn h)⟩
  | rptr id i j len a hn h => exact ⟨rfl, one _ _ (.rptr id i j len a hn h)⟩
  | hsl id i n cc a cc' hn hcap hcc h => exact ⟨rfl, one _ _ (.hsl id i n cc a cc' hn hcap hcc h)⟩
  | lit0 a cc' full hf ha => exact ⟨rfl, one _ _ (.lit0 a cc' full hf ha)⟩
  | lit es full b o cc' esz vs n hlen hcap hf hz hb hsz hc hv => exact ⟨rfl, one _ _ (.lit es full b o cc' esz vs n hlen hcap hf hz hb hsz hc hv)⟩
  | lptr e j b o vs hz hb hc hv => exact ⟨rfl, one _ _ (.lptr e j b o vs hz hb hc hv)⟩
  | tup cs ds hl hv => exact ⟨rfl, one _ _ (.tup cs ds hl hv)⟩
  | fn f cs ds hl hv => exact ⟨rfl, one _ _ (.fn f cs ds hl hv)⟩
  | map id r hn h => exact ⟨rfl, one _ _ (.map id r hn h)⟩

/-- The logical heap told of the world. -/
structure Rel (P : Program) (c : Cx) : Prop where
  lt : ∀ id o, c.s.get id = some o → id < c.s.next
  res : ∀ id, c.R id → id < c.s.next ∧ c.s.get id = none
  blt : ∀ id o, c.s.get id = some o → (c.ι id).1 < c.w.heap.size
  inj : ∀ id id' o o', c.s.get id = some o → c.s.get id' = some o' → (c.ι id).1 = (c.ι id').1 → id = id'
  dis : ∀ b, c.X b → ¬ c.Lb b
  xlt : ∀ b, c.X b → b < c.w.heap.size
  box : ∀ id v t, c.s.get id = some (.box v t) → ∃ cs, c.w.heap[(c.ι id).1]? = some (.cells cs t (0, 0)) ∧ cs.size = v.cells.length ∧
    ∀ (j : Nat) x x', v.cells[j]? = some x → cs[j]? = some x' → VR P c x x'
  row : ∀ id es t g, c.s.get id = some (.row es t g) → ∃ cs, c.w.heap[(c.ι id).1]? = some (.cells cs t (0, 0)) ∧
    cs.size = (c.ι id).2 * P.cellsOf t ∧ es.length ≤ (c.ι id).2 ∧ (∀ (i : Nat) e, es[i]? = some e → e.cells.length = P.cellsOf t) ∧
    ∀ (i : Nat) e (j : Nat) x x', es[i]? = some e → e.cells[j]? = some x → cs[i * P.cellsOf t + j]? = some x' → VR P c x x'
  mp : ∀ id kv, c.s.get id = some (.mp kv) → ∃ es cl, c.w.heap[(c.ι id).1]? = some (.map es cl) ∧ es.size = kv.length ∧
    (∀ (i : Nat) p e, kv[i]? = some p → es[i]? = some e → VR P c p.1 e.key ∧ VR P c p.2 e.val ∧ e.born < cl)

end Den
/- Den, part 1: layouts of types, frames, what an operation does to logical values and heaps. -/
namespace Den
open Go

inductive Lk where
  | int (k : IntKind) | bool | str | flt (k : FloatKind) | cpx (k : FloatKind)
  | ptr (e : TypeId) | sl (e : TypeId) | arr (n : Nat) (e : TypeId) | st (fs : List (Nat × TypeId)) | mp (k e : TypeId) | fn | other

structure Lay where
  size : Nat
  bytes : Nat
  k : Lk
  zero : LV

def lkOf : TypeDesc → Lk
  | .bool => .bool
  | .int k => .int k
  | .float k => .flt k
  | .complex k => .cpx k
  | .string => .str
  | .pointer e => .ptr e
  | .slice e => .sl e
  | .array n e => .arr n e
  | .struct fs => .st (fs.toList.map fun f => (f.offset, f.type))
  | .map k e => .mp k e
  | .func .. => .fn
  | _ => .other

/-- A constant cell. -/
def ofConst1 : Value → Option LV
  | .bool b => some (.bool b)
  | .int k n => some (.int k n)
  | .float k b => some (.flt k b)
  | .complex k a b => some (.cpx k a b)
  | .string s => some (.str s.data.toList)
  | .pointer none => some .nilp
  | .slice none 0 0 => some .nils
  | .map none => some .nilm
  | .nilFunc => some .nilf
  | _ => none

def ofConsts : List Value → Option (List LV)
  | [] => some []
  | v :: r => match ofConst1 v, ofConsts r with
    | some x, some l => some (x :: l)
    | _, _ => none

def ofConst : Value → Option LV
  | .agg cs => match ofConsts cs.toList with
    | some l => some (.agg l)
    | none => none
  | v => ofConst1 v

def layOf (P : Program) (t : TypeId) : Option Lay :=
  match P.info? t, P.underlying t with
  | some i, some d => match i.zero with
    | some z => match ofConst z with
      | some lz => some ⟨i.size, i.bytes, lkOf d, lz⟩
      | none => none
    | none => none
  | _, _ => none

def LayOk (P : Program) (L : TypeId → Option Lay) : Prop := ∀ t l, L t = some l → layOf P t = some l

theorem VR.const1 {P : Program} {c : Cx} {v : Value} {l : LV} (h : ofConst1 v = some l) : VR P c l v := by
  unfold ofConst1 at h
  split at h <;> simp at h <;> subst h
  · exact .bool _
  · exact .int _ _
  · exact .flt _ _
  · exact .cpx _ _ _
  · exact .str _
  · exact .nilp
  · exact .nils
  · exact .nilm
  · exact .nilf

theorem VR.consts {P : Program} {c : Cx} : ∀ {vs : List Value} {ls : List LV}, ofConsts vs = some ls →
    vs.length = ls.length ∧ ∀ (i : Nat) l v, ls[i]? = some l → vs[i]? = some v → VR P c l v := by
  intro vs
  induction vs with
  | nil => intro ls h; simp [ofConsts] at h; subst h; simp
  | cons v r ih =>
    intro ls h
    simp only [ofConsts] at h
    split at h
    · rename_i x l hx hl
      simp at h; subst h
      obtain ⟨h1, h2⟩ := ih hl
      refine ⟨by simp [h1], fun i y v' hy hv' => ?_⟩
      cases i with
      | zero => simp at hy hv'; subst hy; subst hv'; exact VR.const1 hx
      | succ i => simp at hy hv'; exact h2 i y v' hy hv'
    · simp at h

theorem VR.const {P : Program} {c : Cx} {v : Value} {l : LV} (h : ofConst v = some l) : VR P c l v := by
  unfold ofConst at h
  split at h
  · rename_i cs
    split at h
    · rename_i ls hls
      simp at h; subst h
      obtain ⟨h1, h2⟩ := VR.consts (P := P) (c := c) hls
      exact .agg _ _ (by simpa using h1) fun i x x' hx hx' => h2 i x x' hx (by simpa using hx')
    · simp at h
  · exact VR.const1 h

theorem LayOk.info {P : Program} {L : TypeId → Option Lay} (hL : LayOk P L) {t : TypeId} {l : Lay} (h : L t = some l) :
    ∃ i d z, P.info? t = some i ∧ P.underlying t = some d ∧ i.zero = some z ∧ ofConst z = some l.zero ∧ i.size = l.size ∧ i.bytes = l.bytes ∧ lkOf d = l.k := by
  have h := hL t l h
  unfold layOf at h
  split at h
  · rename_i i d hi hd
    split at h
    · rename_i z hz
      split at h
      · rename_i lz hlz
        simp at h; subst h
        exact ⟨i, d, z, hi, hd, hz, hlz, rfl, rfl, rfl⟩
      · simp at h
    · simp at h
  · simp at h

theorem LayOk.size {P : Program} {L : TypeId → Option Lay} (hL : LayOk P L) {t : TypeId} {l : Lay} (h : L t = some l) : P.cellsOf t = l.size := by
  obtain ⟨i, d, z, hi, _, _, _, hs, _⟩ := hL.info h
  simp [Program.cellsOf, hi, hs]

/-! ### Frames -/
structure Fr where
  n : Nat
  l : List (Nat × LV)

def look (t : Nat) : List (Nat × LV) → Option LV
  | [] => none
  | (k, v) :: r => bif Nat.beq k t then some v else look t r

def Fr.get (A : Fr) (t : Nat) : Option LV := look t A.l
def Fr.put (A : Fr) : Option Nat → LV → Fr
  | some d, v => ⟨A.n, (d, v) :: A.l⟩
  | none, _ => A

/-- A frame told of the model's activation. -/
structure AR (P : Program) (c : Cx) (A : Fr) (a : Act) : Prop where
  size : a.tmps.size = A.n
  defers : a.defers = []
  get : ∀ t v, A.get t = some v → ∃ v', a.tmps[t]? = some v' ∧ VR P c v v'

theorem AR.mono {P : Program} {c c' : Cx} (hE : Ext c c') {A : Fr} {a : Act} (h : AR P c A a) : AR P c' A a :=
  ⟨h.size, h.defers, fun t v hv => let ⟨v', h1, h2⟩ := h.get t v hv; ⟨v', h1, h2.mono hE⟩⟩

theorem Fr.get_put_same (A : Fr) (d : Nat) (v : LV) : (A.put (some d) v).get d = some v := by
  simp [Fr.put, Fr.get, look]
theorem Fr.get_put_ne (A : Fr) {d t : Nat} (v : LV) (h : d ≠ t) : (A.put (some d) v).get t = A.get t := by
  have : Nat.beq d t = false := by
    cases hb : Nat.beq d t with
    | false => rfl
    | true => exact absurd (Nat.eq_of_beq_eq_true hb) h
  simp [Fr.put, Fr.get, look, this]

theorem AR.put {P : Program} {c : Cx} {A : Fr} {a : Act} (h : AR P c A a) (dst : Option Nat) (v : LV) (v' : Value) (hd : ∀ d, dst = some d → d < A.n)
    (hv : VR P c v v') : AR P c (A.put dst v) (a.put dst v') := by
  cases dst with
  | none => exact h
  | some d =>
    have hdn := hd d rfl
    refine ⟨by simp [Act.put, Fr.put, h.size], by simp [Act.put, h.defers], fun t x hx => ?_⟩
    by_cases e : d = t
    · subst e
      rw [Fr.get_put_same] at hx
      simp at hx; subst hx
      have := h.size
      exact ⟨v', by simp [Act.put, Array.getElem?_setIfInBounds]; omega, hv⟩
    · rw [Fr.get_put_ne _ _ e] at hx
      obtain ⟨x', h1, h2⟩ := h.get t x hx
      exact ⟨x', by simp [Act.put, e, h1], h2⟩

def ev (A : Fr) : Operand → Option LV
  | .tmp t => A.get t
  | .const v => ofConst v
  | .func f => some (.fn f [])
  | .global _ => none

theorem ev_sound {P : Program} {c : Cx} {A : Fr} {a : Act} (h : AR P c A a) {x : Operand} {v : LV} (hx : ev A x = some v) : VR P c v (a.eval x) := by
  cases x with
  | tmp t =>
    obtain ⟨v', h1, h2⟩ := h.get t v hx
    simpa [Act.eval, h1] using h2
  | const k => exact VR.const hx
  | func f => simp [ev] at hx; subst hx; exact .fn f [] #[] rfl (by simp)
  | global g => simp [ev] at hx

/-! ### What becomes of the world -/
/-- The continuation of an operation, told in the model. -/
def Goes (P : Program) (c : Cx) (K : LV → LS → Prop) (next : Value → World → Prop) : Prop :=
  ∀ v s' ι' w' v', K v s' → Rel P ⟨c.X, c.R, ι', s', w'⟩ → Ext c ⟨c.X, c.R, ι', s', w'⟩ → VR P ⟨c.X, c.R, ι', s', w'⟩ v v' → next v' w'

theorem alloc_old (w : World) (o : Obj) (b : Nat) (h : b < w.heap.size) : (w.alloc o).heap[b]? = w.heap[b]? := by
  simp only [World.alloc, Array.getElem?_push]
  rw [if_neg (by omega)]
theorem alloc_new (w : World) (o : Obj) : (w.alloc o).heap[w.heap.size]? = some o := by
  show (w.heap.push o)[w.heap.size]? = some o
  simp
/-- The same world, or one that has drawn more. -/
theorem Goes.same {P : Program} {c : Cx} {K : LV → LS → Prop} {next : Value → World → Prop} (h : Goes P c K next) {v : LV} {v' : Value}
    (hk : K v c.s) (hr : Rel P c) (hv : VR P c v v') : next v' c.w :=
  h v c.s c.ι c.w v' hk hr (Ext.refl c) hv

theorem Ext.ofAlloc {c : Cx} (o : Obj) (lo : LObj) (K : Nat) (w1 : World) (h0 : w1.heap = c.w.heap) (h1 : w1.os = c.w.os) (h2 : w1.tape = c.w.tape) (h3 : w1.output = c.w.output) :
    Ext c ⟨c.X, c.R, fun j => if j = c.s.next then (c.w.heap.size, K) else c.ι j, c.s.alloc lo, w1.alloc o⟩ where
  X := rfl
  R := rfl
  next := Nat.le_succ _
  size := by simp [h0]
  box id v t hi hg := by
    have : id ≠ c.s.next := by omega
    simp [LS.alloc, this] at hg
    exact ⟨by simp [this], v, hg⟩
  row id es t g hi hg := by
    have : id ≠ c.s.next := by omega
    simp [LS.alloc, this] at hg
    exact ⟨es, g, hg, Nat.le_refl _, .inl (by simp [this]), fun h => h⟩
  mp id kv hi hg := by
    have : id ≠ c.s.next := by omega
    simp [LS.alloc, this] at hg
    exact ⟨by simp [this], kv, hg⟩
  zed b hb hl := by
    obtain ⟨id, o', hg, he⟩ := hl
    by_cases e : id = c.s.next
    · subst e; simp at he; omega
    · simp [LS.alloc, e] at hg he
      exact ⟨id, o', hg, he⟩
  same b hb _ := by
    show (w1.alloc o).heap[b]? = _
    rw [alloc_old _ _ _ (by rw [h0]; exact hb), h0]
  os := h1
  tape := h2
  output := h3

/-- A new block: of a variable, or of a row. -/
theorem Rel.alloc {P : Program} {c : Cx} (hr : Rel P c) (w1 : World) (h0 : w1.heap = c.w.heap) (h1 : w1.os = c.w.os) (h2 : w1.tape = c.w.tape) (h3 : w1.output = c.w.output)
    (lo : LObj) (K : Nat) (cs : Array Value) (t : TypeId)
    (hlo : (∃ v, lo = .box v t ∧ cs.size = v.cells.length ∧ ∀ (j : Nat) x x', v.cells[j]? = some x → cs[j]? = some x' → VR P c x x') ∨
      (∃ es g, lo = .row es t g ∧ cs.size = K * P.cellsOf t ∧ es.length ≤ K ∧ (∀ (i : Nat) e, es[i]? = some e → e.cells.length = P.cellsOf t) ∧
        ∀ (i : Nat) e (j : Nat) x x', es[i]? = some e → e.cells[j]? = some x → cs[i * P.cellsOf t + j]? = some x' → VR P c x x')) :
    Rel P ⟨c.X, c.R, fun j => if j = c.s.next then (c.w.heap.size, K) else c.ι j, c.s.alloc lo, w1.alloc (.cells cs t)⟩ := by
  have hE := Ext.ofAlloc (.cells cs t) lo K w1 h0 h1 h2 h3
  have hold : ∀ b, b < c.w.heap.size → (w1.alloc (.cells cs t)).heap[b]? = c.w.heap[b]? := fun b hb => by
    rw [alloc_old _ _ _ (by rw [h0]; exact hb), h0]
  have hnew : (w1.alloc (.cells cs t)).heap[c.w.heap.size]? = some (.cells cs t) := by
    have := alloc_new w1 (.cells cs t); rw [h0] at this; exact this
  refine ⟨?_, ?_, ?_, ?_, ?_, ?_, ?_, ?_, ?_⟩
  · intro id o hg
    by_cases e : id = c.s.next
    · subst e; exact Nat.lt_succ_self _
    · simp [LS.alloc, e] at hg; exact Nat.lt_succ_of_lt (hr.lt id o hg)
  · intro id hR
    obtain ⟨h4, h5⟩ := hr.res id hR
    have : id ≠ c.s.next := by omega
    exact ⟨Nat.lt_succ_of_lt h4, by simp [LS.alloc, this, h5]⟩
  · intro id o hg
    by_cases e : id = c.s.next
    · subst e; simp [h0]
    · simp [LS.alloc, e] at hg
      simp [e, h0]; exact Nat.lt_succ_of_lt (hr.blt id o hg)
  · intro id id' o o' hg hg' he
    by_cases e : id = c.s.next
    · by_cases e' : id' = c.s.next
      · exact e.trans e'.symm
      · simp [LS.alloc, e'] at hg'
        have := hr.blt id' o' hg'
        simp [e, e'] at he; omega
    · by_cases e' : id' = c.s.next
      · simp [LS.alloc, e] at hg
        have := hr.blt id o hg
        simp [e, e'] at he; omega
      · simp [LS.alloc, e, e'] at hg hg'
        simp [e, e'] at he
        exact hr.inj id id' o o' hg hg' he
  · intro b hb hl
    exact hr.dis b hb (hE.zed b (hr.xlt b hb) hl)
  · intro b hb
    have := hr.xlt b hb
    simp [h0]; omega
  · intro id v t' hg
    by_cases e : id = c.s.next
    · subst e
      simp [LS.alloc] at hg
      rcases hlo with ⟨v0, rfl, h4, h5⟩ | ⟨es, g, rfl, _⟩
      · injection hg with hg1 hg2
        subst hg1; subst hg2
        exact ⟨cs, by simpa using hnew, h4, fun j x x' hx hx' => (h5 j x x' hx hx').mono hE⟩
      · cases hg
    · simp [LS.alloc, e] at hg
      obtain ⟨cs', h4, h5, h6⟩ := hr.box id v t' hg
      refine ⟨cs', ?_, h5, fun j x x' hx hx' => (h6 j x x' hx hx').mono hE⟩
      simp only [e, if_false]
      rw [hold _ (hr.blt id _ hg)]; exact h4
  · intro id es t' g hg
    by_cases e : id = c.s.next
    · subst e
      simp [LS.alloc] at hg
      rcases hlo with ⟨v0, rfl, h4, h5⟩ | ⟨es0, g0, rfl, h4, h5, h6, h7⟩
      · cases hg
      · injection hg with hg1 hg2 hg3
        subst hg1; subst hg2
        exact ⟨cs, by simpa using hnew, by simpa using h4, by simpa using h5, h6, fun i e j x x' he hx hx' => (h7 i e j x x' he hx hx').mono hE⟩
    · simp [LS.alloc, e] at hg
      obtain ⟨cs', h4, h5, h6, h7, h8⟩ := hr.row id es t' g hg
      refine ⟨cs', ?_, by simpa [e] using h5, by simpa [e] using h6, h7, fun i e j x x' he hx hx' => (h8 i e j x x' he hx hx').mono hE⟩
      simp only [e, if_false]
      rw [hold _ (hr.blt id _ hg)]; exact h4
  · intro id kv hg
    by_cases e : id = c.s.next
    · subst e
      simp [LS.alloc] at hg
      rcases hlo with ⟨v0, rfl, _⟩ | ⟨es0, g0, rfl, _⟩ <;> cases hg
    · simp [LS.alloc, e] at hg
      obtain ⟨es, cl, h4, h5, h6⟩ := hr.mp id kv hg
      refine ⟨es, cl, ?_, h5, fun i p en hp hen => ?_⟩
      · simp only [e, if_false]
        rw [hold _ (hr.blt id _ hg)]; exact h4
      · obtain ⟨h7, h8, h9⟩ := h6 i p en hp hen
        exact ⟨h7.mono hE, h8.mono hE, h9⟩

end Den
/- Den, part 2: what each operation does to logical values and heaps, and that it does so in the model. -/
namespace Den
open Go

def oneOf (o : Option LV) (K : LV → Prop) : Prop := match o with
  | some v => K v
  | none => False

theorem oneOf_elim {o : Option LV} {K : LV → Prop} (h : oneOf o K) : ∃ v, o = some v ∧ K v := by
  cases o with
  | none => exact h.elim
  | some v => exact ⟨v, rfl, h⟩

def nth {α : Type} : List α → Nat → Option α
  | [], _ => none
  | x :: _, 0 => some x
  | _ :: r, n + 1 => nth r n

theorem nth_eq {α : Type} : ∀ (l : List α) (n : Nat), nth l n = l[n]?
  | [], _ => by simp [nth]
  | x :: _, 0 => by simp [nth]
  | _ :: r, n + 1 => by simp [nth, nth_eq r n]

/-- A part of a row of cells. -/
def partL (L : TypeId → Option Lay) (t : TypeId) (cs : List LV) (j : Nat) : Option LV :=
  match L t with
  | some l => match l.k with
    | .st _ => bif Nat.ble (j + l.size) cs.length then some (.agg ((cs.drop j).take l.size)) else none
    | .arr _ _ => bif Nat.ble (j + l.size) cs.length then some (.agg ((cs.drop j).take l.size)) else none
    | _ => nth cs j
  | none => none

/-- A row of cells, a part of it others. -/
def setL (cs : List LV) (j : Nat) (ds : List LV) : List LV := cs.take j ++ ds ++ cs.drop (j + ds.length)

/-- A value out of other cells. -/
def reL (v : LV) (cs : List LV) : Option LV := match v with
  | .agg _ => some (.agg cs)
  | _ => match cs with
    | [x] => some x
    | _ => none

def LV.one : LV → Bool
  | .agg _ => false
  | .tup _ => false
  | _ => true

def intBin (op : BinOp) (k : IntKind) (a b : Int) (K : LV → Prop) : Prop :=
  match op with
  | .add => K (.int k (k.wrap (a + b)))
  | .sub => K (.int k (k.wrap (a - b)))
  | .mul => K (.int k (k.wrap (a * b)))
  | .quo => b ≠ 0 ∧ K (.int k (k.wrap (a.tdiv b)))
  | .rem => b ≠ 0 ∧ K (.int k (a.tmod b))
  | .eql => K (.bool (a == b))
  | .neq => K (.bool (a != b))
  | .lss => K (.bool (decide (a < b)))
  | .leq => K (.bool (decide (a ≤ b)))
  | .gtr => K (.bool (decide (a > b)))
  | .geq => K (.bool (decide (a ≥ b)))
  | .and => K (.int k (k.wrap (BitVec.ofInt k.bits a &&& BitVec.ofInt k.bits b).toNat))
  | .or => K (.int k (k.wrap (BitVec.ofInt k.bits a ||| BitVec.ofInt k.bits b).toNat))
  | .xor => K (.int k (k.wrap (BitVec.ofInt k.bits a ^^^ BitVec.ofInt k.bits b).toNat))
  | .andNot => K (.int k (k.wrap (BitVec.ofInt k.bits a &&& ~~~ BitVec.ofInt k.bits b).toNat))
  | _ => False

def strBin (op : BinOp) (x y : List UInt8) (K : LV → Prop) : Prop :=
  match op with
  | .add => ((x.length + y.length : Nat) : Int) ≤ IntKind.i64.max ∧ K (.str (x ++ y))
  | .eql => K (.bool (x == y))
  | .neq => K (.bool (!(x == y)))
  | .lss => K (.bool (Op.bytesLess x y))
  | .leq => K (.bool (Op.bytesLess x y || x == y))
  | .gtr => K (.bool (!(Op.bytesLess x y || x == y)))
  | .geq => K (.bool (!(Op.bytesLess x y)))
  | _ => False

def shiftL (op : BinOp) (k : IntKind) (x y : Int) (K : LV → Prop) : Prop :=
  match op with
  | .shl => 0 ≤ y ∧ K (.int k (k.wrap (x * 2 ^ (min y.toNat k.bits))))
  | .shr => 0 ≤ y ∧ K (.int k (x.fdiv (2 ^ (min y.toNat k.bits))))
  | _ => False

def evPure : Sem Value → Option Value
  | .pure v => some v
  | _ => none

theorem evPure_run {P : Program} {x : Sem Value} {v : Value} (h : evPure x = some v) (w : World) : x.run P w = .ok v w := by
  cases x <;> simp [evPure] at h
  subst h; rfl

/-- Is a slice nil? -/
def isNils : LV → Option Bool
  | .nils => some true
  | .hsl _ _ _ _ => some false
  | _ => none

/-- A slice held against nil. -/
def nilEq (L : TypeId → Option Lay) (op : BinOp) (t : TypeId) (b : Bool) (K : LV → Prop) : Prop :=
  match L t with
  | some l => match l.k with
    | .sl _ => match op with
      | .eql => K (.bool b)
      | .neq => K (.bool (!b))
      | _ => False
    | _ => False
  | none => False

/-- Two arrays of integers. -/
def arrEq (L : TypeId → Option Lay) (op : BinOp) (t : TypeId) (xs ys : List LV) (K : LV → Prop) : Prop :=
  match L t with
  | some l => match l.k with
    | .arr n e => match L e with
      | some le => match le.k with
        | .int k => le.size = 1 ∧ ∃ as bs : List Int, xs = as.map (LV.int k) ∧ ys = bs.map (LV.int k) ∧ as.length = n ∧ bs.length = n ∧ match op with
          | .eql => K (.bool (as == bs))
          | .neq => K (.bool (!(as == bs)))
          | _ => False
        | _ => False
      | none => False
    | _ => False
  | none => False

def binL (L : TypeId → Option Lay) (op : BinOp) (t : TypeId) (x y : LV) (K : LV → Prop) : Prop :=
  match x, y with
  | .int k a, .int k' b => match op with
    | .shl => shiftL op k a b K
    | .shr => shiftL op k a b K
    | _ => match decide (k = k') with
      | true => intBin op k a b K
      | false => False
  | .str a, .str b => strBin op a b K
  | .bool a, .bool b => match L t with
    | some l => match l.k with
      | .bool => match op with
        | .eql => K (.bool (a == b))
        | .neq => K (.bool (!(a == b)))
        | _ => False
      | _ => False
    | none => False
  | .cpx k a b, .cpx k' a' b' => k = k' ∧ ∃ v lv, evPure (Op.complexOp op k a b a' b') = some v ∧ ofConst1 v = some lv ∧ K lv
  | .flt k a, .flt k' a' => k = k' ∧ ∃ v lv, evPure (match op with | .add | .sub | .mul | .quo => Op.floatArith op k a a' | _ => Op.floatCmp op k a a') = some v ∧ ofConst1 v = some lv ∧ K lv
  | .nils, .nils => nilEq L op t true K
  | .hsl _ _ _ _, .nils => nilEq L op t false K
  | .lit (_ :: _) _, .nils => nilEq L op t false K
  | .agg xs, .agg ys => arrEq L op t xs ys K
  | _, _ => False

def unL (op : UnOp) (x : LV) (K : LV → Prop) : Prop :=
  match op, x with
  | .not, .bool b => K (.bool (!b))
  | .neg, .int k n => K (.int k (k.wrap (0 - n)))
  | _, _ => False

/-- Bytes, as a string. -/
def bytesL (L : TypeId → Option Lay) (src : TypeId) (es : List LV) (K : LV → Prop) : Prop :=
  match L src with
  | some ls => match ls.k with
    | .sl e => match L e with
      | some le => match le.k with
        | .int k => match k with
          | .u8 => ∃ bs : List UInt8, es = bs.map (fun b => LV.int .u8 (b.toNat : Int)) ∧ K (.str bs)
          | _ => False
        | _ => False
      | none => False
    | _ => False
  | none => False

def convL (L : TypeId → Option Lay) (src dst : TypeId) (x : LV) (K : LV → Prop) : Prop :=
  match L src, L dst with
  | some _, some ld => match ld.k, x with
    | .int k, .int _ n => K (.int k (k.wrap n))
    | .flt k, .int _ n => K (.flt k (k.nearest n))
    | .int k, .flt s b => ∃ n, (s.decode b).toInt .zero = some n ∧ k.min ≤ n ∧ n ≤ k.max ∧ K (.int k n)
    | .str, .int _ n => K (.str (Utf8.encode n).data.toList)
    | .str, .str s => K (.str s)
    | .str, .lit es _ => bytesL L src es K
    | _, _ => False
  | _, _ => False

theorem bytes_toList (l : List UInt8) : (⟨⟨l⟩⟩ : ByteArray).toList = l := by
  simp

section
variable {P : Program} {L : TypeId → Option Lay} {c : Cx} {K : LV → Prop}

theorem sl_inv' {d : TypeDesc} {e : TypeId} (h : lkOf d = .sl e) : d = .slice e := by
  cases d <;> simp [lkOf] at h; rw [h]

theorem nilEq_sound (hL : LayOk P L) {op : BinOp} {t : TypeId} {b : Bool} {x' : Value} {ox oy : Operand} (h : nilEq L op t b K) (hx : ∃ a n c, x' = .slice a n c ∧ a.isNone = b) (w : World) :
    ∃ v v', K v ∧ VR P c v v' ∧ (do eqGuard op t ox oy x' (.slice none 0 0); binOp op t x' (.slice none 0 0) : Sem Value).run P w = .ok v' w := by
  obtain ⟨a, n, m, rfl, rfl⟩ := hx
  have hg : ∀ w, (eqGuard op t ox oy (.slice a n m) (.slice none 0 0)).run P w = .ok () w := fun w => by
    unfold eqGuard; cases op <;> rfl
  unfold nilEq at h
  split at h
  case h_2 => exact h.elim
  rename_i l hl
  obtain ⟨i, d, z, hi, hd, _, _, _, _, hk⟩ := hL.info hl
  split at h
  case h_2 => exact h.elim
  rename_i e he
  rw [he] at hk
  obtain rfl := sl_inv' hk
  have heq : ∀ w, (Op.equal t (.slice a n m) (.slice none 0 0)).run P w = .ok a.isNone w := fun w => by
    have : ∀ k, (Op.equalIn (k + 1) t (.slice a n m) (.slice none 0 0)).run P w = .ok a.isNone w := fun k => by
      rw [Op.equalIn, Sem.run_bind, run_underlying hd]
      cases a <;> rfl
    exact this 9999
  split at h
  · refine ⟨_, _, h, .bool _, ?_⟩
    rw [Sem.run_bind, hg, Result.andThen_ok]
    show Sem.run P (do pure (Value.bool (← Op.equal t (.slice a n m) (.slice none 0 0)))) w = _
    rw [Sem.run_bind, heq]; rfl
  · refine ⟨_, _, h, .bool _, ?_⟩
    rw [Sem.run_bind, hg, Result.andThen_ok]
    show Sem.run P (do pure (Value.bool (!(← Op.equal t (.slice a n m) (.slice none 0 0))))) w = _
    rw [Sem.run_bind, heq]; rfl
  · exact h.elim

theorem run_part_ints {P : Program} {e : TypeId} {k : IntKind} (he : P.underlying e = some (.int k)) (as : List Int) (j : Nat) (x : Int) (hx : as[j]? = some x) (w : World) :
    (part e (as.map (Value.int k)).toArray (j * 1)).run P w = .ok (.int k x) w := by
  simp [part, isAgg, run_underlying he, hx]

theorem run_int_eq {P : Program} {e : TypeId} {k : IntKind} (d : Nat) (he : P.underlying e = some (.int k)) (x y : Int) (w : World) : (Op.equalIn (d + 1) e (.int k x) (.int k y)).run P w = .ok (x == y) w := by
  rw [Op.equalIn]
  simp only [Sem.run_bind, run_underlying he, Result.andThen_ok]
  simp

theorem run_equal_ints {P : Program} {t e : TypeId} {n : Nat} {k : IntKind} {i : TypeInfo} (d : Nat) (ht : P.underlying t = some (.array n e)) (he : P.underlying e = some (.int k)) (hi : P.info? e = some i) (hs : i.size = 1)
    (as bs : List Int) (ha : as.length = n) (hb : bs.length = n) (w : World) :
    (Op.equalIn (d + 2) t (.agg (as.map (Value.int k)).toArray) (.agg (bs.map (Value.int k)).toArray)).run P w = .ok (as == bs) w := by
  have key : ∀ (m j : Nat), j + m = n → (forIn (List.range' j m) ((none : Option Bool), ()) fun i __s => do
              let __do_lift ← part e (List.map (Value.int k) as).toArray (i * 1)
              let __do_lift_1 ← part e (List.map (Value.int k) bs).toArray (i * 1)
              let __do_lift ← Op.equalIn (d + 1) e __do_lift __do_lift_1
              if (!__do_lift) = true then pure (ForInStep.done (some false, ())) else pure (ForInStep.yield (none, ())) : Sem (Option Bool × Unit)).run P w = .ok ((if as.drop j = bs.drop j then none else some false), ()) w := by
    intro m
    induction m with
    | zero =>
      intro j hj
      have h1 : as.drop j = [] := by apply List.drop_eq_nil_of_le; omega
      have h2 : bs.drop j = [] := by apply List.drop_eq_nil_of_le; omega
      simp [h1, h2]
    | succ m ih =>
      intro j hj
      have hja : j < as.length := by omega
      have hjb : j < bs.length := by omega
      rw [List.range'_succ, List.forIn_cons, Sem.run_bind, Sem.run_bind, run_part_ints he as j as[j] (by simp [hja]), Result.andThen_ok, Sem.run_bind, run_part_ints he bs j bs[j] (by simp [hjb]), Result.andThen_ok,
        Sem.run_bind, run_int_eq d he, Result.andThen_ok]
      have hd : (as.drop j = bs.drop j) ↔ (as[j] = bs[j] ∧ as.drop (j + 1) = bs.drop (j + 1)) := by
        rw [List.drop_eq_getElem_cons hja, List.drop_eq_getElem_cons hjb, List.cons.injEq]
      by_cases hxy : as[j] = bs[j]
      · have : (as[j] == bs[j]) = true := by simpa using hxy
        rw [this]
        simp only [Bool.not_true, Bool.false_eq_true, if_false, Sem.run_pure, Result.andThen_ok]
        rw [ih (j + 1) (by omega)]
        have : (as.drop j = bs.drop j) = (as.drop (j + 1) = bs.drop (j + 1)) := propext (hd.trans ⟨fun h => h.2, fun h => ⟨hxy, h⟩⟩)
        simp only [this]
      · have : (as[j] == bs[j]) = false := by simpa using hxy
        rw [this]
        have : ¬ (as.drop j = bs.drop j) := fun h => hxy (hd.1 h).1
        rw [if_neg this]
        simp
  rw [Op.equalIn]
  simp only [Sem.run_bind, run_underlying ht, Result.andThen_ok, Go.sizeOf, typeInfo]
  have hprog : (Sem.run P program w) = .ok P w := by rfl
  rw [hprog]
  simp only [Result.andThen_ok, hi, Sem.run_pure, hs]
  have hr : (forIn [:n] ((none : Option Bool), ()) fun i __s => do
              let __do_lift ← part e (List.map (Value.int k) as).toArray (i * 1)
              let __do_lift_1 ← part e (List.map (Value.int k) bs).toArray (i * 1)
              let __do_lift ← Op.equalIn (d + 1) e __do_lift __do_lift_1
              if (!__do_lift) = true then pure (ForInStep.done (some false, ())) else pure (ForInStep.yield (none, ())) : Sem (Option Bool × Unit)).run P w = .ok ((if as = bs then none else some false), ()) w := by
    rw [Std.Legacy.Range.forIn_eq_forIn_range']
    have := key n 0 (by omega)
    simpa [Std.Legacy.Range.size] using this
  rw [hr]
  by_cases e : as = bs
  · simp [e]
  · simp [e]

theorem agg_ints {k : IntKind} {as : List Int} {x' : Value} (h : VR P c (.agg (as.map (LV.int k))) x') : x' = .agg (as.map (Value.int k)).toArray := by
  cases h with
  | agg cs ds hl hv =>
    congr 1
    apply Array.ext
    · simpa using hl
    · intro i h1 h2
      have hi : i < as.length := by simpa using h2
      have := hv i (.int k as[i]) ds[i] (by simp [hi]) (by simp [h1])
      generalize ds[i] = y at this
      cases this
      simp

theorem arrEq_sound (hL : LayOk P L) {op : BinOp} {t : TypeId} {xs ys : List LV} {x' y' : Value} {ox oy : Operand} (h : arrEq L op t xs ys K) (hx : VR P c (.agg xs) x') (hy : VR P c (.agg ys) y') (w : World) :
    ∃ v v', K v ∧ VR P c v v' ∧ (do eqGuard op t ox oy x' y'; binOp op t x' y' : Sem Value).run P w = .ok v' w := by
  unfold arrEq at h
  split at h
  case h_2 => exact h.elim
  rename_i l hl
  obtain ⟨i, d, z, hi, hd, _, _, _, _, hk⟩ := hL.info hl
  split at h
  case h_2 => exact h.elim
  rename_i n e he
  rw [he] at hk
  have hd' : d = .array n e := by cases d <;> simp [lkOf] at hk; rw [hk.1, hk.2]
  subst hd'
  split at h
  case h_2 => exact h.elim
  rename_i le hle
  obtain ⟨i2, d2, z2, hi2, hd2, _, _, hs2, _, hk2⟩ := hL.info hle
  split at h
  case h_2 => exact h.elim
  rename_i k hkk
  rw [hkk] at hk2
  have hd' : d2 = .int k := by cases d2 <;> simp [lkOf] at hk2; rw [hk2]
  subst hd'
  obtain ⟨hsz, as, bs, rfl, rfl, ha, hb, h⟩ := h
  obtain rfl := agg_ints hx
  obtain rfl := agg_ints hy
  have heq : ∀ w, (Op.equal t (.agg (as.map (Value.int k)).toArray) (.agg (bs.map (Value.int k)).toArray)).run P w = .ok (as == bs) w :=
    fun w => run_equal_ints 9998 hd hd2 hi2 (by rw [hs2]; exact hsz) as bs ha hb w
  have hgt : P.eqGuardType P.depth t = false := by
    show P.eqGuardType (2 * (P.types.size + Made.depth) + 2) t = false
    rw [Program.eqGuardType, hd]
    simp only
    rw [Program.eqGuardType, hd2]
  have hg : (op = .eql ∨ op = .neq) → ∀ w, (eqGuard op t ox oy (.agg (as.map (Value.int k)).toArray) (.agg (bs.map (Value.int k)).toArray)).run P w = .ok () w := fun ho w => by
    have hprog : (Sem.run P program w) = .ok P w := by rfl
    unfold eqGuard
    rcases ho with rfl | rfl
    · simp [hprog, hgt]
    · simp [hprog, hgt]
  split at h
  · refine ⟨_, _, h, .bool _, ?_⟩
    rw [Sem.run_bind, hg (.inl rfl), Result.andThen_ok]
    show Sem.run P (do pure (Value.bool (← Op.equal t _ _))) w = _
    rw [Sem.run_bind, heq]; rfl
  · refine ⟨_, _, h, .bool _, ?_⟩
    rw [Sem.run_bind, hg (.inr rfl), Result.andThen_ok]
    show Sem.run P (do pure (Value.bool (!(← Op.equal t _ _)))) w = _
    rw [Sem.run_bind, heq]; rfl
  · exact h.elim

theorem binL_sound (hL : LayOk P L) {op : BinOp} {t : TypeId} {x y : LV} {x' y' : Value} {ox oy : Operand} (h : binL L op t x y K) (hx : VR P c x x') (hy : VR P c y y') (w : World) :
    ∃ v v', K v ∧ VR P c v v' ∧ (do eqGuard op t ox oy x' y'; binOp op t x' y' : Sem Value).run P w = .ok v' w := by
  unfold binL at h
  split at h
  · rename_i k a k' b
    cases hx; cases hy
    have hg : ∀ w, (eqGuard op t ox oy (.int k a) (.int k' b)).run P w = .ok () w := fun w => by
      unfold eqGuard; cases op <;> rfl
    split at h
    · simp only [shiftL] at h
      refine ⟨_, _, h.2, .int _ _, ?_⟩
      simp only [Sem.run_bind, hg, Result.andThen_ok, binOp, Op.shift, if_neg (show ¬ b < 0 by omega)]
      rfl
    · simp only [shiftL] at h
      refine ⟨_, _, h.2, .int _ _, ?_⟩
      simp only [Sem.run_bind, hg, Result.andThen_ok, binOp, Op.shift, if_neg (show ¬ b < 0 by omega)]
      rfl
    · rename_i h1 h2
      have hk : k = k' := by
        by_cases hk : k = k'
        · exact hk
        · simp [hk] at h
      subst hk
      simp only [decide_true] at h
      unfold intBin at h
      split at h
      case h_5 => exact ⟨_, _, h.2, .int _ _, by simp only [Sem.run_bind, hg, Result.andThen_ok, binOp, ne_eq, not_true_eq_false, if_false, Op.intDiv, if_neg h.1]; rfl⟩
      case h_4 => exact ⟨_, _, h.2, .int _ _, by simp only [Sem.run_bind, hg, Result.andThen_ok, binOp, ne_eq, not_true_eq_false, if_false, Op.intDiv, if_neg h.1]; rfl⟩
      case h_1 => exact ⟨_, _, h, .int _ _, by simp only [Sem.run_bind, hg, Result.andThen_ok, binOp, ne_eq, not_true_eq_false, if_false]; rfl⟩
      case h_2 => exact ⟨_, _, h, .int _ _, by simp only [Sem.run_bind, hg, Result.andThen_ok, binOp, ne_eq, not_true_eq_false, if_false]; rfl⟩
      case h_3 => exact ⟨_, _, h, .int _ _, by simp only [Sem.run_bind, hg, Result.andThen_ok, binOp, ne_eq, not_true_eq_false, if_false]; rfl⟩
      case h_12 => exact ⟨_, _, h, .int _ _, by simp only [Sem.run_bind, hg, Result.andThen_ok, binOp, ne_eq, not_true_eq_false, if_false]; rfl⟩
      case h_13 => exact ⟨_, _, h, .int _ _, by simp only [Sem.run_bind, hg, Result.andThen_ok, binOp, ne_eq, not_true_eq_false, if_false]; rfl⟩
      case h_14 => exact ⟨_, _, h, .int _ _, by simp only [Sem.run_bind, hg, Result.andThen_ok, binOp, ne_eq, not_true_eq_false, if_false]; rfl⟩
      case h_15 => exact ⟨_, _, h, .int _ _, by simp only [Sem.run_bind, hg, Result.andThen_ok, binOp, ne_eq, not_true_eq_false, if_false]; rfl⟩
      case h_16 => exact h.elim
      all_goals exact ⟨_, _, h, .bool _, by simp only [Sem.run_bind, hg, Result.andThen_ok, binOp, ne_eq, not_true_eq_false, if_false]; rfl⟩
  · rename_i a b
    cases hx; cases hy
    have hg : ∀ w, (eqGuard op t ox oy (.string ⟨⟨a⟩⟩) (.string ⟨⟨b⟩⟩)).run P w = .ok () w := fun w => by
      unfold eqGuard; cases op <;> rfl
    unfold strBin at h
    split at h
    case h_1 =>
      refine ⟨_, _, h.2, .str _, ?_⟩
      have hsz : ¬ (((⟨⟨a⟩⟩ : ByteArray).size + (⟨⟨b⟩⟩ : ByteArray).size : Nat) : Int) > IntKind.i64.max := by
        have := h.1; simp only [ByteArray.size, List.size_toArray]; omega
      simp only [Sem.run_bind, hg, Result.andThen_ok, binOp, Op.stringOp, if_neg hsz]
      rfl
    all_goals first
      | exact h.elim
      | exact ⟨_, _, h, .bool _, by simp only [Sem.run_bind, hg, Result.andThen_ok, binOp, Op.stringOp, bytes_toList]; rfl⟩
  · rename_i a b
    cases hx; cases hy
    have hg : ∀ w, (eqGuard op t ox oy (.bool a) (.bool b)).run P w = .ok () w := fun w => by
      unfold eqGuard; cases op <;> rfl
    split at h
    · rename_i l hl
      obtain ⟨i, d, z, hi, hd, _, _, _, _, hk⟩ := hL.info hl
      split at h
      · rename_i hb
        rw [hb] at hk
        have hd' : d = .bool := by cases d <;> simp [lkOf] at hk <;> rfl
        subst hd'
        have he : ∀ w, (Op.equal t (.bool a) (.bool b)).run P w = .ok (a == b) w := fun w => by
          have : ∀ n, (Op.equalIn (n + 1) t (.bool a) (.bool b)).run P w = .ok (a == b) w := fun n => by
            rw [Op.equalIn, Sem.run_bind, run_underlying hd]; rfl
          exact this 9999
        split at h
        · refine ⟨_, _, h, .bool _, ?_⟩
          rw [Sem.run_bind, hg, Result.andThen_ok]
          show Sem.run P (do pure (Value.bool (← Op.equal t (.bool a) (.bool b)))) w = _
          rw [Sem.run_bind, he]; rfl
        · refine ⟨_, _, h, .bool _, ?_⟩
          rw [Sem.run_bind, hg, Result.andThen_ok]
          show Sem.run P (do pure (Value.bool (!(← Op.equal t (.bool a) (.bool b))))) w = _
          rw [Sem.run_bind, he]; rfl
        · exact h.elim
      · exact h.elim
    · exact h.elim
  · rename_i k a b k' a' b'
    cases hx; cases hy
    obtain ⟨rfl, v, lv, h1, h2, h3⟩ := h
    have hg : ∀ w, (eqGuard op t ox oy (.complex k a b) (.complex k a' b')).run P w = .ok () w := fun w => by
      unfold eqGuard; cases op <;> rfl
    refine ⟨_, v, h3, VR.const1 h2, ?_⟩
    have := evPure_run (P := P) h1 w
    rw [Sem.run_bind, hg, Result.andThen_ok]
    have e : binOp op t (.complex k a b) (.complex k a' b') = Op.complexOp op k a b a' b' := by
      cases op <;> exact if_neg (fun h => h rfl)
    rw [e]; exact this
  · rename_i k a k' a'
    cases hx; cases hy
    obtain ⟨rfl, v, lv, h1, h2, h3⟩ := h
    have hg : ∀ w, (eqGuard op t ox oy (.float k a) (.float k a')).run P w = .ok () w := fun w => by
      unfold eqGuard; cases op <;> rfl
    refine ⟨_, v, h3, VR.const1 h2, ?_⟩
    have := evPure_run (P := P) h1 w
    rw [Sem.run_bind, hg, Result.andThen_ok]
    cases op <;> simp only [binOp, ne_eq, not_true_eq_false, if_false] <;> exact this
  · cases hx; cases hy; exact nilEq_sound hL h ⟨_, _, _, rfl, rfl⟩ w
  · cases hx; cases hy; exact nilEq_sound hL h ⟨_, _, _, rfl, rfl⟩ w
  · cases hy
    cases hx with
    | lit _ _ b o cc' esz vs n hlen hcap hf hz hb hsz hc hv => exact nilEq_sound hL h ⟨_, _, _, rfl, rfl⟩ w
  · exact arrEq_sound hL h hx hy w
  · exact h.elim

theorem unL_sound {op : UnOp} {x : LV} {x' : Value} (h : unL op x K) (hx : VR P c x x') (w : World) :
    ∃ v v', K v ∧ VR P c v v' ∧ (Op.unary op x').run P w = .ok v' w := by
  unfold unL at h
  split at h
  · cases hx; exact ⟨_, _, h, .bool _, rfl⟩
  · cases hx; exact ⟨_, _, h, .int _ _, rfl⟩
  · exact h.elim

theorem bytesL_sound (hL : LayOk P L) {src dst : TypeId} {es : List LV} {full : Bool} {x' : Value} (h : bytesL L src es K) (hd2 : P.underlying dst = some .string) (hx : VR P c (.lit es full) x') :
    ∃ v v', K v ∧ VR P c v v' ∧ (convert src dst x').run P c.w = .ok v' c.w := by
  unfold bytesL at h
  split at h
  case h_2 => exact h.elim
  rename_i ls hls
  obtain ⟨i, d, z, hi, hd, _, _, _, _, hk⟩ := hL.info hls
  split at h
  case h_2 => exact h.elim
  rename_i e he
  rw [he] at hk
  obtain rfl := sl_inv' hk
  split at h
  case h_2 => exact h.elim
  rename_i le hle
  obtain ⟨i2, d2, z2, hi2, hde, _, _, _, _, hk2⟩ := hL.info hle
  split at h
  case h_2 => exact h.elim
  rename_i k hkk
  split at h
  case h_2 => exact h.elim
  rw [hkk] at hk2
  have hd' : d2 = .int .u8 := by cases d2 <;> simp [lkOf] at hk2; rw [hk2]
  subst hd'
  obtain ⟨bs, rfl, hK⟩ := h
  refine ⟨_, _, hK, .str _, ?_⟩
  generalize hes : bs.map (fun b => LV.int .u8 (b.toNat : Int)) = es at hx
  cases hx with
  | lit0 a cc' _ hf ha =>
    have : bs = [] := by cases bs with
      | nil => rfl
      | cons _ _ => cases hes
    subst this
    rw [run_convert_bytes_string c.w src dst e a 0 cc' hd hde hd2]
    cases a with
    | none => rfl
    | some a => simp [Conv.bytesToString, loadCells, loadCellsFrom]; rfl
  | lit _ _ b o cc' esz vs n hlen hcap hf hz hb hsz hc hv =>
    have hn : n = bs.length := by rw [hlen, ← hes]; simp
    subst hn
    refine run_convert_bytes_back c.w src dst e _ cc' bs hd hde hd2 fun j hj => ?_
    have hej : es[j]? = some (LV.int .u8 (bs[j].toNat : Int)) := by rw [← hes]; simp [hj]
    have h1 := hsz j _ hej
    have h2 := hc j _ 0 _ hej rfl
    have h3 := hv j _ 0 _ hej rfl
    have : esz = 1 := h1.symm
    subst this
    generalize vs j 0 = y at h2 h3
    cases h3
    have ha : (⟨b, o, none⟩ : Addr).add j = ⟨b, o + j, none⟩ := by unfold Addr.add; split <;> simp_all
    rw [ha]
    simpa using h2

theorem convL_sound (hL : LayOk P L) {src dst : TypeId} {x : LV} {x' : Value} (h : convL L src dst x K) (hx : VR P c x x') :
    ∃ v v', K v ∧ VR P c v v' ∧ (convert src dst x').run P c.w = .ok v' c.w := by
  unfold convL at h
  split at h
  · rename_i ls ld hls hld
    obtain ⟨i1, d1, z1, hi1, hd1, _, _, _, _, hk1⟩ := hL.info hls
    obtain ⟨i2, d2, z2, hi2, hd2, _, _, _, _, hk2⟩ := hL.info hld
    have hu1 := run_underlying (w := c.w) hd1
    have hu2 := run_underlying (w := c.w) hd2
    split at h
    · rename_i k k0 n hk
      rw [hk] at hk2
      have hd' : d2 = .int k := by cases d2 <;> simp [lkOf] at hk2; rw [hk2]
      subst hd'
      cases hx
      refine ⟨_, _, h, .int _ _, ?_⟩
      simp only [convert, Sem.run_bind, hu1, hu2, Result.andThen_ok]
      cases d1 <;> rfl
    · rename_i k k0 n hk
      rw [hk] at hk2
      have hd' : d2 = .float k := by cases d2 <;> simp [lkOf] at hk2; rw [hk2]
      subst hd'
      cases hx
      refine ⟨_, _, h, .flt _ _, ?_⟩
      simp only [convert, Sem.run_bind, hu1, hu2, Result.andThen_ok]
      cases d1 <;> rfl
    · rename_i k s b hk
      rw [hk] at hk2
      have hd' : d2 = .int k := by cases d2 <;> simp [lkOf] at hk2; rw [hk2]
      subst hd'
      cases hx
      obtain ⟨n, hn, h1, h2, h3⟩ := h
      refine ⟨_, _, h3, .int _ _, ?_⟩
      have hf : (Conv.floatToInt s b k).run P c.w = .ok (.int k n) c.w := by
        simp only [Conv.floatToInt, hn, if_pos (And.intro h1 h2)]; rfl
      simp only [convert, Sem.run_bind, hu1, hu2, Result.andThen_ok]
      cases d1 <;> exact hf
    · rename_i k0 n hk
      rw [hk] at hk2
      have hd' : d2 = .string := by cases d2 <;> simp [lkOf] at hk2 <;> rfl
      subst hd'
      cases hx
      refine ⟨_, _, h, .str _, ?_⟩
      simp only [convert, Sem.run_bind, hu1, hu2, Result.andThen_ok]
      cases d1 <;> rfl
    · rename_i s hk
      rw [hk] at hk2
      have hd' : d2 = .string := by cases d2 <;> simp [lkOf] at hk2 <;> rfl
      subst hd'
      cases hx
      refine ⟨_, _, h, .str _, ?_⟩
      simp only [convert, Sem.run_bind, hu1, hu2, Result.andThen_ok]
      cases d1 <;> rfl
    · rename_i es full hk
      rw [hk] at hk2
      have hd' : d2 = .string := by cases d2 <;> simp [lkOf] at hk2 <;> rfl
      subst hd'
      exact bytesL_sound hL h hd2 hx
    · exact h.elim
  · exact h.elim

end
end Den
/- Den, part 3: reading and writing memory. -/
namespace Den
open Go

/-- Cells that read so, from a place on. -/
def At (P : Program) (c : Cx) (e : List LV) (b o : Nat) : Prop :=
  ∀ (k : Nat) v, e[k]? = some v → ∃ v', c.w.cell? ⟨b, o + k, none⟩ = some v' ∧ VR P c v v'

theorem addr_add (b o k : Nat) : (⟨b, o, none⟩ : Addr).add k = ⟨b, o + k, none⟩ := by
  unfold Addr.add; split <;> simp_all

section
variable {P : Program} {L : TypeId → Option Lay} {c : Cx}

def isAggD : TypeDesc → Bool
  | .struct _ => true
  | .array _ _ => true
  | _ => false

theorem run_isAgg {t : TypeId} {d : TypeDesc} (h : P.underlying t = some d) (w : World) :
    (isAgg t).run P w = .ok (isAggD d) w := by
  simp only [isAgg, Sem.run_bind, run_underlying h, Result.andThen_ok]
  cases d <;> rfl

theorem part_load (hL : LayOk P L) {t : TypeId} {e : List LV} {b o j : Nat} {r : LV} (hat : At P c e b o) (hp : partL L t e j = some r) :
    ∃ r', (loadVar t ⟨b, o + j, none⟩).run P c.w = .ok r' c.w ∧ VR P c r r' := by
  unfold partL at hp
  split at hp
  case h_2 => simp at hp
  rename_i l hl
  obtain ⟨i, d, z, hi, hd, _, _, hs, _, hk⟩ := hL.info hl
  have hagg := run_isAgg hd c.w
  have aggcase : isAggD d = true →
      (bif Nat.ble (j + l.size) e.length then some (LV.agg ((e.drop j).take l.size)) else none) = some r →
      ∃ r', (loadVar t ⟨b, o + j, none⟩).run P c.w = .ok r' c.w ∧ VR P c r r' := by
    intro hd' hp
    cases hb : Nat.ble (j + l.size) e.length with
    | false => simp [hb] at hp
    | true =>
      simp [hb] at hp
      subst hp
      have hle := Nat.le_of_ble_eq_true hb
      have hcell : ∀ k, k < l.size → c.w.cell? ((⟨b, o + j, none⟩ : Addr).add k) = some ((c.w.cell? ⟨b, o + j + k, none⟩).getD undef) := by
        intro k hk
        obtain ⟨v', h1, h2⟩ := hat (j + k) (e[j + k]'(by omega)) (by simp)
        rw [addr_add, Nat.add_assoc, h1]; rfl
      have hrun := run_loadCells (P := P) c.w ⟨b, o + j, none⟩ l.size _ hcell
      refine ⟨.agg ((List.range l.size).map fun k => (c.w.cell? ⟨b, o + j + k, none⟩).getD undef).toArray, ?_, VR.agg _ _ (by simp; omega) fun k v v' hv hv' => ?_⟩
      · simp only [loadVar, Sem.run_bind, hagg, hd', Result.andThen_ok, if_true, Go.sizeOf, typeInfo, run_program, hi, hs, Sem.run_pure]
        simp only [hrun, Result.andThen_ok]
      · simp [List.getElem?_take] at hv
        obtain ⟨hkl, hv⟩ := hv
        obtain ⟨u, h1, h2⟩ := hat (j + k) v hv
        simp [hkl] at hv'
        rw [← hv', Nat.add_assoc, h1]; exact h2
  split at hp
  · rename_i fs hf
    rw [hf] at hk
    exact aggcase (by cases d <;> simp [lkOf, isAggD] at hk ⊢) hp
  · rename_i n e' hf
    rw [hf] at hk
    exact aggcase (by cases d <;> simp [lkOf, isAggD] at hk ⊢) hp
  · rename_i h1 h2
    rw [nth_eq] at hp
    obtain ⟨v', h3, h4⟩ := hat j r hp
    refine ⟨v', ?_, h4⟩
    have hd' : isAggD d = false := by
      cases d with
      | struct fs => exact absurd hk.symm (h1 _)
      | array n e => exact absurd hk.symm (h2 _ _)
      | _ => rfl
    simp only [loadVar, Sem.run_bind, hagg, hd', Result.andThen_ok]
    simp [h3]

/-- A part of a value's cells, cut out of an aggregate. -/
theorem part_part (hL : LayOk P L) {t : TypeId} {e : List LV} {ds : Array Value} {j : Nat} {r : LV} (hl : ds.size = e.length)
    (hv : ∀ (i : Nat) v v', e[i]? = some v → ds[i]? = some v' → VR P c v v') (hp : partL L t e j = some r) (w : World) :
    ∃ r', (part t ds j).run P w = .ok r' w ∧ VR P c r r' := by
  unfold partL at hp
  split at hp
  case h_2 => simp at hp
  rename_i l hl'
  obtain ⟨i, d, z, hi, hd, _, _, hs, _, hk⟩ := hL.info hl'
  have hagg := run_isAgg hd w
  have aggcase : isAggD d = true →
      (bif Nat.ble (j + l.size) e.length then some (LV.agg ((e.drop j).take l.size)) else none) = some r →
      ∃ r', (part t ds j).run P w = .ok r' w ∧ VR P c r r' := by
    intro hd' hp
    cases hb : Nat.ble (j + l.size) e.length with
    | false => simp [hb] at hp
    | true =>
      simp [hb] at hp
      subst hp
      have hle := Nat.le_of_ble_eq_true hb
      refine ⟨.agg (ds.extract j (j + l.size)), ?_, VR.agg _ _ (by simp; omega) fun k v v' hv1 hv2 => ?_⟩
      · simp only [part, Sem.run_bind, hagg, hd', Result.andThen_ok, if_true, Go.sizeOf, typeInfo, run_program, hi, hs, Sem.run_pure]
      · simp [List.getElem?_take] at hv1
        simp [Array.getElem?_extract] at hv2
        exact hv (j + k) v v' hv1.2 hv2.2
  split at hp
  · rename_i fs hf
    rw [hf] at hk
    exact aggcase (by cases d <;> simp [lkOf, isAggD] at hk ⊢) hp
  · rename_i n e' hf
    rw [hf] at hk
    exact aggcase (by cases d <;> simp [lkOf, isAggD] at hk ⊢) hp
  · rename_i h1 h2
    rw [nth_eq] at hp
    have hj : j < ds.size := by rw [hl]; exact (List.getElem?_eq_some_iff.1 hp).1
    refine ⟨ds[j], ?_, hv j r _ hp (by simp [hj])⟩
    have hd' : isAggD d = false := by
      cases d with
      | struct fs => exact absurd hk.symm (h1 _)
      | array n e => exact absurd hk.symm (h2 _ _)
      | _ => rfl
    simp only [part, Sem.run_bind, hagg, hd', Result.andThen_ok]
    simp [hj]

theorem Rel.at_box (hr : Rel P c) {id : Nat} {v : LV} {t : TypeId} (h : c.s.get id = some (.box v t)) : At P c v.cells (c.ι id).1 0 := by
  obtain ⟨cs, h1, h2, h3⟩ := hr.box id v t h
  intro k x hx
  have hk : k < cs.size := by rw [h2]; exact (List.getElem?_eq_some_iff.1 hx).1
  refine ⟨cs[k], ?_, h3 k x _ hx (by simp [hk])⟩
  simp [World.cell?, h1, hk]

theorem Rel.at_row (hr : Rel P c) {id : Nat} {es : List LV} {t : TypeId} {g : Bool} (h : c.s.get id = some (.row es t g)) {i : Nat} {e : LV} (he : es[i]? = some e) :
    At P c e.cells (c.ι id).1 (i * P.cellsOf t) := by
  obtain ⟨cs, h1, h2, h3, h4, h5⟩ := hr.row id es t g h
  intro k x hx
  have hi : i < es.length := (List.getElem?_eq_some_iff.1 he).1
  have hk : k < P.cellsOf t := by rw [← h4 i e he]; exact (List.getElem?_eq_some_iff.1 hx).1
  have hlt : i * P.cellsOf t + k < cs.size := by
    rw [h2]
    calc i * P.cellsOf t + k < i * P.cellsOf t + P.cellsOf t := by omega
      _ = (i + 1) * P.cellsOf t := by rw [Nat.succ_mul]
      _ ≤ (c.ι id).2 * P.cellsOf t := Nat.mul_le_mul_right _ (by omega)
  refine ⟨cs[i * P.cellsOf t + k], ?_, h5 i e k x _ he hx (by simp [hlt])⟩
  simp [World.cell?, h1, hlt]

/-- What a pointer reads. -/
def loadL (L : TypeId → Option Lay) (s : LS) (t : TypeId) (p : LV) (K : LV → Prop) : Prop :=
  match p with
  | .bptr id j => match s.get id with
    | some (.box v _) => oneOf (partL L t v.cells j) K
    | _ => False
  | .rptr id i j len => match s.get id with
    | some (.row es _ g) => (g = true → es.length = len) ∧ ∃ v, es[i]? = some v ∧ oneOf (partL L t v.cells j) K
    | _ => False
  | .lptr e j => oneOf (partL L t e.cells j) K
  | _ => False

theorem loadL_sound (hL : LayOk P L) (hr : Rel P c) {t : TypeId} {p : LV} {p' : Value} {K : LV → Prop} (h : loadL L c.s t p K) (hp : VR P c p p') :
    ∃ v v', K v ∧ VR P c v v' ∧ (Instr.loadAt t p').run P c.w = .ok v' c.w := by
  unfold loadL at h
  split at h
  · rename_i id j
    split at h
    · rename_i v bt hg
      obtain ⟨r, h1, h2⟩ := oneOf_elim h
      cases hp with
      | bptr _ _ a hn ha =>
        rw [ha v bt hg]
        obtain ⟨r', h3, h4⟩ := part_load hL (hr.at_box hg) h1
        rw [Nat.zero_add] at h3
        exact ⟨r, r', h2, h4, by simpa [Instr.loadAt, Instr.sureAddr] using h3⟩
    · exact h.elim
  · rename_i id i j len
    split at h
    · rename_i es bt g hg
      obtain ⟨hgl, e, he, h⟩ := h
      obtain ⟨r, h1, h2⟩ := oneOf_elim h
      cases hp with
      | rptr _ _ _ _ a hn ha =>
        rw [(ha es bt g hg).2 (by cases g <;> simp_all)]
        obtain ⟨r', h3, h4⟩ := part_load hL (hr.at_row hg he) h1
        exact ⟨r, r', h2, h4, by simpa [Instr.loadAt, Instr.sureAddr] using h3⟩
    · exact h.elim
  · rename_i e j
    obtain ⟨r, h1, h2⟩ := oneOf_elim h
    cases hp with
    | lptr _ _ b o vs hz hb hc hv =>
      have hat : At P c e.cells b o := fun k v hk => ⟨vs k, hc k v hk, hv k v hk⟩
      obtain ⟨r', h3, h4⟩ := part_load hL hat h1
      exact ⟨r, r', h2, h4, by simpa [Instr.loadAt, Instr.sureAddr] using h3⟩
  · exact h.elim

end
end Den
/- Den, part 4: writing memory, addresses. -/
namespace Den
open Go

section
variable {P : Program} {L : TypeId → Option Lay} {c : Cx}

/-- A block that is alive gets other cells. -/
theorem Rel.write (hr : Rel P c) {id : Nat} {o o' : LObj} (cs' : Array Value) (hg : c.s.get id = some o)
    (hk : (∃ v v' t, o = .box v t ∧ o' = .box v' t ∧ cs'.size = v'.cells.length ∧ ∀ (j : Nat) x x', v'.cells[j]? = some x → cs'[j]? = some x' → VR P c x x') ∨
      (∃ es es' t g, o = .row es t g ∧ o' = .row es' t g ∧ es'.length = es.length ∧ cs'.size = (c.ι id).2 * P.cellsOf t ∧ (∀ (i : Nat) e, es'[i]? = some e → e.cells.length = P.cellsOf t) ∧
        ∀ (i : Nat) e (j : Nat) x x', es'[i]? = some e → e.cells[j]? = some x → cs'[i * P.cellsOf t + j]? = some x' → VR P c x x')) :
    Rel P ⟨c.X, c.R, c.ι, c.s.upd id o', c.w.setRow (c.ι id).1 cs'⟩ ∧ Ext c ⟨c.X, c.R, c.ι, c.s.upd id o', c.w.setRow (c.ι id).1 cs'⟩ := by
  have live : ∀ j o1, (c.s.upd id o').get j = some o1 → ∃ o2, c.s.get j = some o2 := by
    intro j o1 h
    by_cases e : j = id
    · exact ⟨o, e ▸ hg⟩
    · simp [LS.upd, e] at h; exact ⟨o1, h⟩
  have hE : Ext c ⟨c.X, c.R, c.ι, c.s.upd id o', c.w.setRow (c.ι id).1 cs'⟩ := by
    refine ⟨rfl, rfl, Nat.le_refl _, by simp, ?_, ?_, ?_, ?_, ?_, rfl, rfl, rfl⟩
    · intro j v' t' hj hx
      refine ⟨rfl, ?_⟩
      by_cases e : j = id
      · subst e
        simp [LS.upd] at hx
        rcases hk with ⟨v, v1, t, rfl, rfl, _⟩ | ⟨es, es', t, g, rfl, rfl, _⟩
        · injection hx with _ h2
          subst h2; exact ⟨v, hg⟩
        · cases hx
      · simp [LS.upd, e] at hx; exact ⟨v', hx⟩
    · intro j es1 t' g' hj hx
      by_cases e : j = id
      · subst e
        simp [LS.upd] at hx
        rcases hk with ⟨v, v1, t, rfl, rfl, _⟩ | ⟨es, es', t, g, rfl, rfl, hl, _⟩
        · cases hx
        · injection hx with h1 h2 h3
          subst h1; subst h2; subst h3
          exact ⟨es, g, hg, by omega, .inl rfl, fun h => h⟩
      · simp [LS.upd, e] at hx; exact ⟨es1, g', hx, Nat.le_refl _, .inl rfl, fun h => h⟩
    · intro j kv hj hx
      refine ⟨rfl, ?_⟩
      by_cases e : j = id
      · subst e
        simp [LS.upd] at hx
        rcases hk with ⟨v, v1, t, rfl, rfl, _⟩ | ⟨es, es', t, g, rfl, rfl, hl, _⟩ <;> cases hx
      · simp [LS.upd, e] at hx; exact ⟨kv, hx⟩
    · intro b hb ⟨j, o1, h1, h2⟩
      obtain ⟨o2, h3⟩ := live j o1 h1
      exact ⟨j, o2, h3, h2⟩
    · intro b hb hn
      show (c.w.setRow (c.ι id).1 cs').heap[b]? = _
      rw [setRow_other]
      intro he; exact hn ⟨id, o, hg, he.symm⟩
  have other : ∀ j o2, j ≠ id → c.s.get j = some o2 → (c.w.setRow (c.ι id).1 cs').heap[(c.ι j).1]? = c.w.heap[(c.ι j).1]? := by
    intro j o2 hj h2
    rw [setRow_other]
    intro he; exact hj (hr.inj j id o2 o h2 hg he)
  refine ⟨⟨?_, ?_, ?_, ?_, ?_, ?_, ?_, ?_, ?_⟩, hE⟩
  · intro j o1 h
    obtain ⟨o2, h2⟩ := live j o1 h
    exact hr.lt j o2 h2
  · intro j hR
    obtain ⟨h4, h5⟩ := hr.res j hR
    refine ⟨h4, ?_⟩
    have : j ≠ id := fun e => by rw [e, hg] at h5; cases h5
    simp [LS.upd, this, h5]
  · intro j o1 h
    obtain ⟨o2, h2⟩ := live j o1 h
    simpa using hr.blt j o2 h2
  · intro j j' o1 o1' h h' he
    obtain ⟨o2, h2⟩ := live j o1 h
    obtain ⟨o2', h2'⟩ := live j' o1' h'
    exact hr.inj j j' o2 o2' h2 h2' he
  · intro b hb ⟨j, o1, h1, h2⟩
    obtain ⟨o2, h3⟩ := live j o1 h1
    exact hr.dis b hb ⟨j, o2, h3, h2⟩
  · intro b hb
    simpa using hr.xlt b hb
  · intro j v t hx
    by_cases e : j = id
    · subst e
      simp [LS.upd] at hx
      rcases hk with ⟨v0, v1, t0, rfl, rfl, h4, h5⟩ | ⟨es, es', t, g, rfl, rfl, _⟩
      · injection hx with h1 h2
        subst h1; subst h2
        obtain ⟨cs, h6, _⟩ := hr.box j v0 t0 hg
        exact ⟨cs', setRow_heap _ _ cs cs' t0 _ h6, h4, fun k x x' hx hx' => (h5 k x x' hx hx').mono hE⟩
      · cases hx
    · simp [LS.upd, e] at hx
      obtain ⟨cs, h4, h5, h6⟩ := hr.box j v t hx
      exact ⟨cs, by show (c.w.setRow _ _).heap[_]? = _; rw [other j _ e hx]; exact h4, h5, fun k x x' hx hx' => (h6 k x x' hx hx').mono hE⟩
  · intro j es1 t g hx
    by_cases e : j = id
    · subst e
      simp [LS.upd] at hx
      rcases hk with ⟨v0, v1, t0, rfl, rfl, h4, h5⟩ | ⟨es, es', t0, g0, rfl, rfl, hl, h4, h5, h6⟩
      · cases hx
      · injection hx with h1 h2 h3
        subst h1; subst h2; subst h3
        obtain ⟨cs, h7, _, h8, _⟩ := hr.row j es t0 g0 hg
        exact ⟨cs', setRow_heap _ _ cs cs' t0 _ h7, h4, by show es'.length ≤ (c.ι j).2; omega, h5, fun i e k x x' he hx hx' => (h6 i e k x x' he hx hx').mono hE⟩
    · simp [LS.upd, e] at hx
      obtain ⟨cs, h4, h5, h6, h7, h8⟩ := hr.row j es1 t g hx
      exact ⟨cs, by show (c.w.setRow _ _).heap[_]? = _; rw [other j _ e hx]; exact h4, h5, h6, h7, fun i e k x x' he hx hx' => (h8 i e k x x' he hx hx').mono hE⟩
  · intro j kv hx
    by_cases e : j = id
    · subst e
      simp [LS.upd] at hx
      rcases hk with ⟨v0, v1, t0, rfl, rfl, h4, h5⟩ | ⟨es, es', t0, g0, rfl, rfl, hl, h4, h5, h6⟩ <;> cases hx
    · simp [LS.upd, e] at hx
      obtain ⟨es, cl, h4, h5, h6⟩ := hr.mp j kv hx
      refine ⟨es, cl, by show (c.w.setRow _ _).heap[_]? = _; rw [other j _ e hx]; exact h4, h5, fun i p en hp hen => ?_⟩
      obtain ⟨h7, h8, h9⟩ := h6 i p en hp hen
      exact ⟨h7.mono hE, h8.mono hE, h9⟩

theorem oneCell_of {v : LV} {v' : Value} (h : VR P c v v') (h1 : v.one = true) : v'.oneCell' = true := by
  cases h <;> first | rfl | simp [LV.one] at h1

/-- What a store leaves. -/
def storeL (L : TypeId → Option Lay) (s : LS) (t : TypeId) (p v : LV) (K : LS → Prop) : Prop :=
  match L t with
  | some l => bif Nat.beq v.cells.length l.size && v.cells.all LV.one then
      match p with
      | .bptr id j => match s.get id with
        | some (.box v0 bt) => bif Nat.ble (j + l.size) v0.cells.length then
            match reL v0 (setL v0.cells j v.cells) with
            | some v1 => K (s.upd id (.box v1 bt))
            | none => False
          else False
        | _ => False
      | .rptr id i j len => match s.get id with
        | some (.row es bt g) => (g = true → es.length = len) ∧ ∃ e, es[i]? = some e ∧ j + l.size ≤ e.cells.length ∧ ∃ e1, reL e (setL e.cells j v.cells) = some e1 ∧ K (s.upd id (.row (es.set i e1) bt g))
        | _ => False
      | _ => False
    else False
  | none => False

theorem one_cells {x : LV} (h : x.one = true) : x.cells = [x] := by cases x <;> first | rfl | simp [LV.one] at h

theorem reL_cells {v v1 : LV} {ds : List LV} {j : Nat} (h : reL v (setL v.cells j ds) = some v1) (h1 : ds.all LV.one = true) (h2 : 0 < ds.length) (h3 : j + ds.length ≤ v.cells.length) : v1.cells = setL v.cells j ds := by
  unfold reL at h
  split at h
  · simp at h; subst h; rfl
  · rename_i hv
    have hc : v.cells = [v] := by cases v <;> first | rfl | exact absurd rfl (hv _)
    rw [hc] at h h3 ⊢
    simp at h3
    obtain rfl : j = 0 := by omega
    obtain ⟨x, rfl⟩ : ∃ x, ds = [x] := List.length_eq_one_iff.1 (by omega)
    simp at h1
    simp [setL] at h ⊢
    subst h
    exact one_cells h1

theorem setL_length {cs ds : List LV} {j : Nat} (h : j + ds.length ≤ cs.length) : (setL cs j ds).length = cs.length := by
  simp [setL]; omega

theorem setL_get {cs ds : List LV} {j k : Nat} (h : j + ds.length ≤ cs.length) :
    (setL cs j ds)[k]? = if k < j then cs[k]? else if k < j + ds.length then ds[k - j]? else cs[k]? := by
  unfold setL
  have hj : (cs.take j).length = j := by simp; omega
  rw [List.append_assoc, List.getElem?_append, hj]
  split
  · rw [List.getElem?_take]; simp [*]
  · rename_i h1
    rw [List.getElem?_append]
    split
    · rename_i h2
      rw [if_pos (by omega)]
    · rename_i h2
      rw [if_neg (by omega), List.getElem?_drop]
      congr 1; omega

/-- The cells behind a store into a row of cells that reads so. -/
theorem cells_set {cs ds : List LV} {cur new : Array Value} {base j : Nat} (hd : new.size = ds.length) (hle : j + ds.length ≤ cs.length) (hcur : base + cs.length ≤ cur.size)
    (h1 : ∀ (k : Nat) x x', cs[k]? = some x → cur[base + k]? = some x' → VR P c x x') (h2 : ∀ (k : Nat) x x', ds[k]? = some x → new[k]? = some x' → VR P c x x') :
    ∀ (k : Nat) x x', (setL cs j ds)[k]? = some x → (cur.toList.take (base + j + 0) ++ new.toList ++ cur.toList.drop (base + j + 0 + new.toList.length)).toArray[base + k]? = some x' → VR P c x x' := by
  intro k x x' hx hx'
  have hk : k < cs.length := by rw [← setL_length hle]; exact (List.getElem?_eq_some_iff.1 hx).1
  rw [setL_get hle] at hx
  have ht : (cur.toList.take (base + j + 0)).length = base + j := by simp; omega
  rw [List.getElem?_toArray, List.append_assoc, List.getElem?_append, ht] at hx'
  split at hx
  · rename_i hkj
    rw [if_pos (by omega), List.getElem?_take, if_pos (by omega)] at hx'
    exact h1 k x x' hx (by simpa using hx')
  · rename_i hkj
    rw [if_neg (by omega), List.getElem?_append] at hx'
    split at hx
    · rename_i hk2
      rw [if_pos (by simp; omega)] at hx'
      have e : base + k - (base + j) = k - j := by omega
      rw [e] at hx'
      exact h2 (k - j) x x' hx (by simpa using hx')
    · rename_i hk2
      rw [if_neg (by simp; omega), List.getElem?_drop] at hx'
      have e : base + j + 0 + new.toList.length + (base + k - (base + j) - new.toList.length) = base + k := by simp; omega
      rw [e] at hx'
      exact h1 k x x' hx (by simpa using hx')

theorem size_set {cur new : Array Value} {o : Nat} (h : o + new.size ≤ cur.size) : (cur.toList.take (o + 0) ++ new.toList ++ cur.toList.drop (o + 0 + new.toList.length)).toArray.size = cur.size := by
  simp; omega

theorem run_storeVar_at (hL : LayOk P L) {t : TypeId} {l : Lay} (hl : L t = some l) {v' : Value} (hs : v'.cells.size = l.size) (h1 : ∀ u ∈ v'.cells.toList, u.oneCell' = true)
    {w : World} {g o : Nat} {cur : Array Value} {bt : TypeId} (hg : w.heap[g]? = some (.cells cur bt (0, 0))) (ho : o + l.size ≤ cur.size) :
    (storeVar t ⟨g, o, none⟩ v').run P w = .ok () (w.setRow g (cur.toList.take (o + 0) ++ v'.cells.toList ++ cur.toList.drop (o + 0 + v'.cells.toList.length)).toArray) := by
  obtain ⟨i, d, z, hi, hd, _, _, hsz, _, hk⟩ := hL.info hl
  have hst := run_storeCells_at P g o bt v'.cells.toList 0 cur w hg (by simp [hs]; omega) h1
  simp only [storeVar, Sem.run_bind, Go.sizeOf, typeInfo, run_program, Result.andThen_ok, hi, Sem.run_pure, hsz, hs]
  simpa using hst

theorem storeL_sound (hL : LayOk P L) (hr : Rel P c) {t : TypeId} {p v : LV} {p' v' : Value} {K : LS → Prop} (h : storeL L c.s t p v K) (hp : VR P c p p') (hv : VR P c v v') (hz : ∀ l, L t = some l → 0 < l.size) :
    ∃ s' w', K s' ∧ Rel P ⟨c.X, c.R, c.ι, s', w'⟩ ∧ Ext c ⟨c.X, c.R, c.ι, s', w'⟩ ∧ (Instr.storeAt t p' v').run P c.w = .ok () w' := by
  unfold storeL at h
  split at h
  case h_2 => exact h.elim
  rename_i l hl
  cases hb : (Nat.beq v.cells.length l.size && v.cells.all LV.one) with
  | false => rw [hb] at h; exact h.elim
  | true =>
    rw [hb] at h
    simp only [cond_true] at h
    simp only [Bool.and_eq_true] at hb
    obtain ⟨hb1, hb2⟩ := hb
    have hlen := Nat.eq_of_beq_eq_true hb1
    obtain ⟨hvs, hvc⟩ := hv.cells
    have hpos := hz l hl
    have hone : ∀ u ∈ v'.cells.toList, u.oneCell' = true := by
      intro u hu
      obtain ⟨k, hk⟩ := List.getElem?_of_mem hu
      have hk2 : k < v.cells.length := by rw [← hvs]; have := (List.getElem?_eq_some_iff.1 hk).1; simpa using this
      exact oneCell_of (hvc k _ u (List.getElem?_eq_getElem hk2) (by simpa using hk)) (List.all_eq_true.1 hb2 _ (List.getElem_mem hk2))
    split at h
    · rename_i id j
      split at h
      · rename_i v0 bt hg
        cases hle : Nat.ble (j + l.size) v0.cells.length with
        | false => rw [hle] at h; exact h.elim
        | true =>
          rw [hle] at h
          simp only [cond_true] at h
          have hle := Nat.le_of_ble_eq_true hle
          split at h
          · rename_i v1 hv1
            cases hp with
            | bptr _ _ a hn ha =>
              rw [ha v0 bt hg]
              obtain ⟨cs, h3, h4, h5⟩ := hr.box id v0 bt hg
              have hrun := run_storeVar_at hL hl (by omega) hone h3 (o := j) (by omega)
              have hc1 := reL_cells hv1 hb2 (by omega) (by omega)
              have hset := cells_set (P := P) (c := c) (cs := v0.cells) (ds := v.cells) (cur := cs) (new := v'.cells) (base := 0) (j := j) hvs (by omega) (by omega) (by simpa using h5) hvc
              obtain ⟨hR, hE⟩ := hr.write (o' := .box v1 bt) (cs.toList.take (j + 0) ++ v'.cells.toList ++ cs.toList.drop (j + 0 + v'.cells.toList.length)).toArray hg
                (.inl ⟨v0, v1, bt, rfl, rfl, by rw [size_set (by omega), hc1, setL_length (by omega)]; exact h4, by rw [hc1]; simpa using hset⟩)
              exact ⟨_, _, h, hR, hE, by simp [Instr.storeAt, Instr.sureAddr]; simpa using hrun⟩
          · exact h.elim
      · exact h.elim
    · rename_i id i j len
      split at h
      · rename_i es bt g hg
        obtain ⟨hgl, e, he, hle, e1, he1, h⟩ := h
        cases hp with
        | rptr _ _ _ _ a hn ha =>
          rw [(ha es bt g hg).2 (by cases g <;> simp_all)]
          obtain ⟨cs, h3, h4, h5, h6, h7⟩ := hr.row id es bt g hg
          have hi : i < es.length := (List.getElem?_eq_some_iff.1 he).1
          have hec := h6 i e he
          have hmul : (i + 1) * P.cellsOf bt ≤ (c.ι id).2 * P.cellsOf bt := Nat.mul_le_mul_right _ (by omega)
          rw [Nat.succ_mul] at hmul
          have hrun := run_storeVar_at hL hl (by omega) hone h3 (o := i * P.cellsOf bt + j) (by omega)
          have hc1 := reL_cells he1 hb2 (by omega) (by omega)
          have hset := cells_set (P := P) (c := c) (cs := e.cells) (ds := v.cells) (cur := cs) (new := v'.cells) (base := i * P.cellsOf bt) (j := j) hvs (by omega) (by omega) (fun k x x' hx hx' => h7 i e k x x' he hx hx') hvc
          have hlens : ∀ (k : Nat) x, (es.set i e1)[k]? = some x → x.cells.length = P.cellsOf bt := by
            intro k x hx
            rw [List.getElem?_set] at hx
            split at hx
            · simp [hi] at hx; subst hx; rw [hc1, setL_length (by omega)]; exact hec
            · exact h6 k x hx
          have hvals : ∀ (k : Nat) x (q : Nat) y y', (es.set i e1)[k]? = some x → x.cells[q]? = some y →
              (cs.toList.take (i * P.cellsOf bt + j + 0) ++ v'.cells.toList ++ cs.toList.drop (i * P.cellsOf bt + j + 0 + v'.cells.toList.length)).toArray[k * P.cellsOf bt + q]? = some y' → VR P c y y' := by
            intro k x q y y' hx hy hy'
            rw [List.getElem?_set] at hx
            split at hx
            · rename_i hki
              subst hki
              simp [hi] at hx; subst hx
              rw [hc1] at hy
              exact hset q y y' hy hy'
            · rename_i hki
              have hq : q < P.cellsOf bt := by rw [← h6 k x hx]; exact (List.getElem?_eq_some_iff.1 hy).1
              refine h7 k x q y y' hx hy ?_
              rw [List.getElem?_toArray, List.append_assoc, List.getElem?_append] at hy'
              have ht : (cs.toList.take (i * P.cellsOf bt + j + 0)).length = i * P.cellsOf bt + j := by simp; omega
              rw [ht] at hy'
              rcases Nat.lt_or_gt_of_ne hki with hlt | hgt
              · have hm : (i + 1) * P.cellsOf bt ≤ k * P.cellsOf bt := Nat.mul_le_mul_right _ (by omega)
                rw [Nat.succ_mul] at hm
                rw [if_neg (by omega), List.getElem?_append, if_neg (by simp; omega), List.getElem?_drop] at hy'
                have e2 : i * P.cellsOf bt + j + 0 + v'.cells.toList.length + (k * P.cellsOf bt + q - (i * P.cellsOf bt + j) - v'.cells.toList.length) = k * P.cellsOf bt + q := by simp; omega
                rw [e2] at hy'
                simpa using hy'
              · have hm : (k + 1) * P.cellsOf bt ≤ i * P.cellsOf bt := Nat.mul_le_mul_right _ (by omega)
                rw [Nat.succ_mul] at hm
                rw [if_pos (by omega), List.getElem?_take, if_pos (by omega)] at hy'
                simpa using hy'
          have key := hr.write (o' := .row (es.set i e1) bt g) (cs.toList.take (i * P.cellsOf bt + j + 0) ++ v'.cells.toList ++ cs.toList.drop (i * P.cellsOf bt + j + 0 + v'.cells.toList.length)).toArray hg
            (.inr ⟨es, es.set i e1, bt, g, rfl, rfl, by simp, by rw [size_set (by omega)]; exact h4, hlens, hvals⟩)
          exact ⟨_, _, h, key.1, key.2, by simpa [Instr.storeAt, Instr.sureAddr] using hrun⟩
      · exact h.elim
    · exact h.elim

end
end Den
/- Den, part 5: addresses, new memory, parts of values. -/
set_option linter.unusedSimpArgs false
set_option linter.unusedVariables false
namespace Den
open Go

section
variable {P : Program} {L : TypeId → Option Lay} {c : Cx}

/-! ### Addresses of fields and elements -/
def fieldAddrL (L : TypeId → Option Lay) (t : TypeId) (p : LV) (f : Nat) (K : LV → Prop) : Prop :=
  match L t with
  | some l => match l.k with
    | .st fs => match nth fs f with
      | some (off, ft) => match L ft with
        | some lf => match lf.size with
          | 0 => False
          | _ + 1 => match p with
            | .bptr id j => K (.bptr id (j + off))
            | .rptr id i j len => K (.rptr id i (j + off) len)
            | .lptr e j => K (.lptr e (j + off))
            | _ => False
        | none => False
      | none => False
    | _ => False
  | none => False

theorem st_inv {d : TypeDesc} {fs : List (Nat × TypeId)} (h : lkOf d = .st fs) : ∃ gs, d = .struct gs ∧ fs = gs.toList.map fun f => (f.offset, f.type) := by
  cases d <;> simp [lkOf] at h
  exact ⟨_, rfl, h.symm⟩
theorem sl_inv {d : TypeDesc} {e : TypeId} (h : lkOf d = .sl e) : d = .slice e := by cases d <;> simp [lkOf] at h; rw [h]
theorem arr_inv {d : TypeDesc} {n : Nat} {e : TypeId} (h : lkOf d = .arr n e) : d = .array n e := by cases d <;> simp [lkOf] at h; rw [h.1, h.2]
theorem str_inv {d : TypeDesc} (h : lkOf d = .str) : d = .string := by cases d <;> simp [lkOf] at h <;> rfl

theorem fieldAddrL_sound (hL : LayOk P L) {t : TypeId} {p : LV} {p' : Value} {f : Nat} {K : LV → Prop} (h : fieldAddrL L t p f K) (hp : VR P c p p') (w : World) :
    ∃ v v', K v ∧ VR P c v v' ∧ (Instr.fieldAt t p' f).run P w = .ok v' w := by
  unfold fieldAddrL at h
  split at h
  case h_2 => exact h.elim
  rename_i l hl
  split at h
  case h_2 => exact h.elim
  rename_i fs hfs
  split at h
  case h_2 => exact h.elim
  rename_i off ft hf
  split at h
  case h_2 => exact h.elim
  rename_i lf hlf
  split at h
  case h_1 => exact h.elim
  rename_i n hn
  obtain ⟨i, d, z, hi, hd, _, _, _, _, hk⟩ := hL.info hl
  rw [hfs] at hk
  obtain ⟨gs, rfl, rfl⟩ := st_inv hk
  obtain ⟨i2, _, _, hi2, _, _, _, hs2, _, _⟩ := hL.info hlf
  rw [nth_eq] at hf
  simp at hf
  obtain ⟨fd, hfd, rfl, rfl⟩ := hf
  have hne : ¬ i2.size = 0 := by omega
  have hrun : ∀ a, (Instr.fieldAt t (.pointer (some a)) f).run P w = .ok (.pointer (some (a.add fd.offset))) w := by
    intro a
    simp [Instr.fieldAt, run_underlying hd, hfd, Instr.sureAddr, fieldPlace, Go.sizeOf, typeInfo, hi2, hne]
  cases hp with
  | bptr id j a hn ha =>
    refine ⟨_, _, h, ?_, hrun a⟩
    refine .bptr _ _ _ hn fun v t hg => ?_
    rw [ha v t hg, addr_add]
  | rptr id i j len a hn ha =>
    refine ⟨_, _, h, ?_, hrun a⟩
    refine .rptr _ _ _ _ _ hn fun es t g hg => ?_
    obtain ⟨h1, h2⟩ := ha es t g hg
    refine ⟨h1, fun hx => ?_⟩
    rw [h2 hx, addr_add, Nat.add_assoc]
  | lptr e j b o vs hz hb hc hv =>
    refine ⟨_, _, h, ?_, hrun _⟩
    rw [addr_add, Nat.add_assoc]
    exact .lptr e _ b o vs hz hb hc hv
  | _ => exact h.elim

def indexAddrL (L : TypeId → Option Lay) (s : LS) (t : TypeId) (x ix : LV) (K : LV → Prop) : Prop :=
  match ix with
  | .int _ n => match L t with
    | some l => match l.k with
      | .sl e => match L e with
        | some le => match x with
          | .lit es _ => 0 ≤ n ∧ ∃ v, es[n.toNat]? = some v ∧ v.cells.length = le.size ∧ K (.lptr v 0)
          | .hsl id i0 m _ => match s.get id with
            | some (.row _ bt _) => match Nat.beq bt e with
              | true => 0 ≤ n ∧ n < m ∧ K (.rptr id (i0 + n.toNat) 0 (i0 + m))
              | false => False
            | _ => False
          | _ => False
        | none => False
      | .arr len e => match L e with
        | some le => match x with
          | .bptr id j => 0 ≤ n ∧ n < len ∧ K (.bptr id (j + n.toNat * le.size))
          | .rptr id i j m => 0 ≤ n ∧ n < len ∧ K (.rptr id i (j + n.toNat * le.size) m)
          | .lptr v j => 0 ≤ n ∧ n < len ∧ K (.lptr v (j + n.toNat * le.size))
          | _ => False
        | none => False
      | _ => False
    | none => False
  | _ => False

theorem indexAddrL_sound (hL : LayOk P L) {t : TypeId} {x ix : LV} {x' ix' : Value} {K : LV → Prop} (h : indexAddrL L c.s t x ix K) (hx : VR P c x x') (hi : VR P c ix ix') (w : World) :
    ∃ v v', K v ∧ VR P c v v' ∧ (Instr.indexAt t x' ix').run P w = .ok v' w := by
  unfold indexAddrL at h
  split at h
  case h_2 => exact h.elim
  rename_i k n
  cases hi
  split at h
  case h_2 => exact h.elim
  rename_i l hl
  obtain ⟨i, d, z, hi, hd, _, _, _, _, hk⟩ := hL.info hl
  split at h
  · rename_i e he
    rw [he] at hk
    obtain rfl := sl_inv hk
    split at h
    case h_2 => exact h.elim
    rename_i le hle
    obtain ⟨i2, _, _, hi2, _, _, _, hs2, _, _⟩ := hL.info hle
    have hrun : ∀ (a : Addr) (m cc : Nat), 0 ≤ n → n < (m : Int) → (Instr.indexAt t (.slice (some a) m cc) (.int k n)).run P w = .ok (.pointer (some (a.add (n.toNat * le.size)))) w := by
      intro a m cc h1 h2
      simp [Instr.indexAt, asIntOf, run_underlying hd, h1, h2, Go.sizeOf, typeInfo, hi2, hs2]
    split at h
    · rename_i es full
      obtain ⟨h0, v, hv, hsz, hK⟩ := h
      have hlt : n.toNat < es.length := (List.getElem?_eq_some_iff.1 hv).1
      cases hx with
      | lit0 a cc' _ hf ha => simp at hlt
      | lit _ _ b o cc' esz vs m hlen hcap hf hz hb hsz' hc hvv =>
        refine ⟨_, _, hK, ?_, hrun _ _ _ h0 (by omega)⟩
        rw [addr_add]
        have hesz : esz = le.size := by rw [← hsz' _ v hv, hsz]
        have := VR.lptr (P := P) (c := c) v 0 b (o + n.toNat * le.size) (vs n.toNat) hz hb
          (fun q u hq => by have := hc n.toNat v q u hv hq; rw [hesz] at this; rw [Nat.add_assoc]; exact this) (fun q u hq => hvv n.toNat v q u hv hq)
        simpa using this
    · rename_i id i0 m cc
      split at h
      case h_2 => exact h.elim
      rename_i es bt g hg
      split at h
      case h_2 => exact h.elim
      rename_i hbe
      obtain rfl := Nat.eq_of_beq_eq_true hbe
      obtain ⟨h0, h1, hK⟩ := h
      cases hx with
      | hsl _ _ _ _ a cc' hn hcap hcc hh =>
        refine ⟨_, _, hK, ?_, hrun _ _ _ h0 (by omega)⟩
        refine .rptr _ _ _ _ _ hn fun es' bt' g' hg' => ?_
        rw [hg] at hg'
        injection hg' with hg'
        injection hg' with e1 e2 e3
        subst e1; subst e2; subst e3
        obtain ⟨h2, h3⟩ := hh es bt g hg
        refine ⟨h2, fun hx => ?_⟩
        rw [(h3 hx).1 (by omega), addr_add, hL.size hle, ← Nat.add_mul]
        simp
    · exact h.elim
  · rename_i len e he
    rw [he] at hk
    obtain rfl := arr_inv hk
    split at h
    case h_2 => exact h.elim
    rename_i le hle
    obtain ⟨i2, _, _, hi2, _, _, _, hs2, _, _⟩ := hL.info hle
    have hrun : ∀ a, 0 ≤ n → n < (len : Int) → (Instr.indexAt t (.pointer (some a)) (.int k n)).run P w = .ok (.pointer (some (a.add (n.toNat * le.size)))) w := by
      intro a h1 h2
      simp [Instr.indexAt, asIntOf, run_underlying hd, Instr.sureAddr, h1, h2, Go.sizeOf, typeInfo, hi2, hs2]
    split at h
    · rename_i id j
      obtain ⟨h0, h1, hK⟩ := h
      cases hx with
      | bptr _ _ a hn ha =>
        refine ⟨_, _, hK, ?_, hrun a h0 h1⟩
        refine .bptr _ _ _ hn fun v t hg => ?_
        rw [ha v t hg, addr_add]
    · rename_i id i j m
      obtain ⟨h0, h1, hK⟩ := h
      cases hx with
      | rptr _ _ _ _ a hn ha =>
        refine ⟨_, _, hK, ?_, hrun a h0 h1⟩
        refine .rptr _ _ _ _ _ hn fun es t g hg => ?_
        obtain ⟨h1, h2⟩ := ha es t g hg
        refine ⟨h1, fun hx => ?_⟩
        rw [h2 hx, addr_add, Nat.add_assoc]
    · rename_i v j
      obtain ⟨h0, h1, hK⟩ := h
      cases hx with
      | lptr _ _ b o vs hz hb hc hv =>
        refine ⟨_, _, hK, ?_, hrun _ h0 h1⟩
        rw [addr_add, Nat.add_assoc]
        exact .lptr v _ b o vs hz hb hc hv
    · exact h.elim
  · exact h.elim

/-! ### New variables -/
def allocL (L : TypeId → Option Lay) (s : LS) (t : TypeId) (K : LV → LS → Prop) : Prop :=
  match L t with
  | some l => K (.bptr s.next 0) (s.alloc (.box l.zero t))
  | none => False

theorem new_box {K : LV → LS → Prop} {next : Value → World → Prop} (hr : Rel P c) (hg : Goes P c K next) {v : LV} {v' : Value} (t : TypeId) (hv : VR P c v v')
    (hK : K (.bptr c.s.next 0) (c.s.alloc (.box v t))) : next (.pointer (some ⟨c.w.heap.size, 0, none⟩)) (c.w.alloc (.cells v'.cells t)) := by
  have h1 := hr.alloc c.w rfl rfl rfl rfl (.box v t) 1 v'.cells t (.inl ⟨v, rfl, hv.cells.1, hv.cells.2⟩)
  have h2 := Ext.ofAlloc (c := c) (.cells v'.cells t) (.box v t) 1 c.w rfl rfl rfl rfl
  refine hg _ _ _ _ _ hK h1 h2 (.bptr _ _ _ ⟨Nat.lt_succ_self _, fun hR => Nat.lt_irrefl _ (hr.res _ hR).1⟩ fun v t hg => ?_)
  simp

theorem allocL_sound (hL : LayOk P L) (hr : Rel P c) {t : TypeId} {K : LV → LS → Prop} {next : Value → World → Prop} (h : allocL L c.s t K) (hg : Goes P c K next) :
    ∃ v' w', (Instr.alloc t true (.tuple #[])).run P c.w = .ok v' w' ∧ next v' w' := by
  unfold allocL at h
  split at h
  case h_2 => exact h.elim
  rename_i l hl
  obtain ⟨i, d, z, hi, hd, hz, hlz, _, _, hk⟩ := hL.info hl
  exact ⟨_, _, by simp [Instr.alloc, zeroValue, typeInfo, hi, hz, newVar, newRow], new_box hr hg t (VR.const hlz) h⟩

theorem boxL_sound (hr : Rel P c) {t : TypeId} {v : LV} {v' : Value} {K : LV → LS → Prop} {next : Value → World → Prop} (hv : VR P c v v') (h : K (.bptr c.s.next 0) (c.s.alloc (.box v t))) (hg : Goes P c K next) :
    ∃ u w', (Instr.box t v').run P c.w = .ok u w' ∧ next u w' :=
  ⟨_, _, by simp [Instr.box, newVar, newRow], new_box hr hg t hv h⟩

/-! ### Aggregates -/
theorem foldl_set (off : Nat) : ∀ (vs : List Value) (j : Nat) (cs : Array Value), off + j + vs.length ≤ cs.size →
    ((vs.zipIdx j).foldl (fun cs (c, j) => cs.setIfInBounds (off + j) c) cs).size = cs.size ∧
    ∀ k, ((vs.zipIdx j).foldl (fun cs (c, j) => cs.setIfInBounds (off + j) c) cs)[k]? = if off + j ≤ k ∧ k < off + j + vs.length then vs[k - (off + j)]? else cs[k]? := by
  intro vs
  induction vs with
  | nil => intro j cs h; simp; intro k h1 h2; omega
  | cons v r ih =>
    intro j cs h
    simp only [List.zipIdx_cons, List.foldl_cons]
    simp only [List.length_cons] at h
    obtain ⟨h1, h2⟩ := ih (j + 1) (cs.setIfInBounds (off + j) v) (by simp; omega)
    refine ⟨by rw [h1]; simp, fun k => ?_⟩
    rw [h2 k]
    by_cases hk : k = off + j
    · subst hk
      rw [if_neg (by omega), if_pos (by simp)]
      have : off + j < cs.size := by omega
      simp [this]
    · by_cases hk2 : off + (j + 1) ≤ k ∧ k < off + (j + 1) + r.length
      · rw [if_pos hk2, if_pos (by simp; omega)]
        have : k - (off + j) = (k - (off + (j + 1))) + 1 := by omega
        rw [this]; simp
      · rw [if_neg hk2, if_neg (by simp; omega)]
        simp [Array.getElem?_setIfInBounds, Ne.symm hk]

def fillL (places : Nat → Option (Nat × Nat)) (cs : List LV) : List (Nat × LV) → Option (List LV)
  | [] => some cs
  | (i, v) :: r => match places i with
    | some (off, size) => bif Nat.beq v.cells.length size && Nat.ble (off + size) cs.length then fillL places (setL cs off v.cells) r else none
    | none => none

theorem fillL_sound (place : Nat → Option (Nat × Nat)) : ∀ (ps : List (Nat × LV)) (qs : List (Nat × Value)) (cs : List LV) (ds : Array Value) (r : List LV),
    ps.length = qs.length → (∀ (i : Nat) p q, ps[i]? = some p → qs[i]? = some q → p.1 = q.1 ∧ VR P c p.2 q.2) →
    ds.size = cs.length → (∀ (k : Nat) x x', cs[k]? = some x → ds[k]? = some x' → VR P c x x') → fillL place cs ps = some r →
    ∃ r', Instr.fill place ds qs = some r' ∧ r'.size = r.length ∧ (∀ (k : Nat) x x', r[k]? = some x → r'[k]? = some x' → VR P c x x') := by
  intro ps
  induction ps with
  | nil =>
    intro qs cs ds r hl hq hs hv h
    cases qs with
    | nil => simp [fillL] at h; subst h; exact ⟨ds, rfl, hs, hv⟩
    | cons q qs => simp at hl
  | cons p ps ih =>
    intro qs cs ds r hl hq hs hv h
    cases qs with
    | nil => simp at hl
    | cons q qs =>
      obtain ⟨i, v⟩ := p
      obtain ⟨i', v'⟩ := q
      obtain ⟨e, hvv⟩ := hq 0 (i, v) (i', v') rfl rfl
      simp only at e hvv
      subst e
      simp only [fillL] at h
      split at h
      case h_2 => simp at h
      rename_i off size hp
      cases hb : (Nat.beq v.cells.length size && Nat.ble (off + size) cs.length) with
      | false => simp [hb] at h
      | true =>
        simp only [hb, cond_true] at h
        simp only [Bool.and_eq_true] at hb
        have hb1 := Nat.eq_of_beq_eq_true hb.1
        have hb2 := Nat.le_of_ble_eq_true hb.2
        obtain ⟨hc1, hc2⟩ := hvv.cells
        obtain ⟨f1, f2⟩ := foldl_set off v'.cells.toList 0 ds (by simp; omega)
        have hfold : v'.cells.zipIdx.foldl (fun cs (c, j) => cs.setIfInBounds (off + j) c) ds = (v'.cells.toList.zipIdx 0).foldl (fun cs (c, j) => cs.setIfInBounds (off + j) c) ds := by
          rw [← Array.foldl_toList, Array.toList_zipIdx]
        obtain ⟨r', g1, g2, g3⟩ := ih qs (setL cs off v.cells) (v'.cells.zipIdx.foldl (fun cs (c, j) => cs.setIfInBounds (off + j) c) ds) r (by simpa using hl)
          (fun k p q hp hq' => hq (k + 1) p q hp hq') (by rw [hfold, f1, setL_length (by omega)]; exact hs) (fun k x x' hx hx' => by
            rw [hfold, f2 k] at hx'
            rw [setL_get (by omega)] at hx
            split at hx
            · rw [if_neg (by simp; omega)] at hx'; exact hv k x x' hx hx'
            · split at hx
              · rw [if_pos (by simp; omega)] at hx'; exact hc2 (k - off) x x' hx (by simpa using hx')
              · rw [if_neg (by simp; omega)] at hx'; exact hv k x x' hx hx') h
        refine ⟨r', ?_, g2, g3⟩
        simp only [Instr.fill, hp]
        rw [if_neg (by simp; omega)]
        exact g1

def evs (A : Fr) : List Operand → Option (List LV)
  | [] => some []
  | x :: r => match ev A x with
    | some v => match evs A r with
      | some l => some (v :: l)
      | none => none
    | none => none

theorem evs_sound {A : Fr} {a : Act} (ha : AR P c A a) : ∀ {xs : List Operand} {vs : List LV}, evs A xs = some vs →
    vs.length = xs.length ∧ ∀ (i : Nat) v v', vs[i]? = some v → (xs.map a.eval)[i]? = some v' → VR P c v v' := by
  intro xs
  induction xs with
  | nil => intro vs h; simp [evs] at h; subst h; simp
  | cons x r ih =>
    intro vs h
    simp only [evs] at h
    split at h
    case h_2 => simp at h
    rename_i v hv
    split at h
    case h_2 => simp at h
    rename_i l hl
    simp at h; subst h
    obtain ⟨h1, h2⟩ := ih hl
    refine ⟨by simp [h1], fun i y y' hy hy' => ?_⟩
    cases i with
    | zero => simp at hy hy'; subst hy; subst hy'; exact ev_sound ha hv
    | succ i => simp at hy hy'; exact h2 i y y' hy (by simpa using hy')

def evps (A : Fr) : List (Nat × Operand) → Option (List (Nat × LV))
  | [] => some []
  | (i, x) :: r => match ev A x with
    | some v => match evps A r with
      | some l => some ((i, v) :: l)
      | none => none
    | none => none

theorem evps_sound {A : Fr} {a : Act} (ha : AR P c A a) : ∀ {xs : List (Nat × Operand)} {vs : List (Nat × LV)}, evps A xs = some vs →
    vs.length = xs.length ∧ ∀ (i : Nat) p q, vs[i]? = some p → (xs.map fun (i, x) => (i, a.eval x))[i]? = some q → p.1 = q.1 ∧ VR P c p.2 q.2 := by
  intro xs
  induction xs with
  | nil => intro vs h; simp [evps] at h; subst h; simp
  | cons p r ih =>
    intro vs h
    obtain ⟨j, x⟩ := p
    simp only [evps] at h
    split at h
    case h_2 => simp at h
    rename_i v hv
    split at h
    case h_2 => simp at h
    rename_i l hl
    simp at h; subst h
    obtain ⟨h1, h2⟩ := ih hl
    refine ⟨by simp [h1], fun i y y' hy hy' => ?_⟩
    cases i with
    | zero => simp at hy hy'; subst hy; subst hy'; exact ⟨rfl, ev_sound ha hv⟩
    | succ i => simp at hy hy'; exact h2 i y y' hy (by simpa using hy')

/-- The places of a struct's fields: offset and size. -/
def placesL (L : TypeId → Option Lay) : List (Nat × TypeId) → Option (List (Nat × Nat))
  | [] => some []
  | (off, ft) :: r => match L ft with
    | some l => match placesL L r with
      | some q => some ((off, l.size) :: q)
      | none => none
    | none => none

def buildL (L : TypeId → Option Lay) (t : TypeId) (ps : List (Nat × LV)) (K : LV → Prop) : Prop :=
  match L t with
  | some l => match l.k with
    | .st fs => match placesL L fs with
      | some q => match fillL (nth q) l.zero.cells ps with
        | some r => K (.agg r)
        | none => False
      | none => False
    | .arr _ e => match L e with
      | some le => match fillL (fun i => some (i * le.size, le.size)) l.zero.cells ps with
        | some r => K (.agg r)
        | none => False
      | none => False
    | _ => False
  | none => False

theorem placesL_sound (hL : LayOk P L) : ∀ (gs : List Field) {q : List (Nat × Nat)}, placesL L (gs.map fun f => (f.offset, f.type)) = some q →
    gs.mapM (fun f => (P.info? f.type).map fun i => (f.offset, i.size)) = some q := by
  intro gs
  induction gs with
  | nil => intro q h; simp [placesL] at h; subst h; rfl
  | cons g r ih =>
    intro q h
    simp only [List.map_cons, placesL] at h
    split at h
    case h_2 => simp at h
    rename_i l hl
    split at h
    case h_2 => simp at h
    rename_i q' hq
    simp at h; subst h
    obtain ⟨i, _, _, hi, _, _, _, hs, _, _⟩ := hL.info hl
    simp [List.mapM_cons, hi, ih hq, hs]

theorem buildL_sound (hL : LayOk P L) {t : TypeId} {ps : List (Nat × LV)} {qs : Array (Nat × Value)} {K : LV → Prop} (h : buildL L t ps K)
    (hl : ps.length = qs.toList.length) (hq : ∀ (i : Nat) p q, ps[i]? = some p → qs.toList[i]? = some q → p.1 = q.1 ∧ VR P c p.2 q.2) (w : World) :
    ∃ v v', K v ∧ VR P c v v' ∧ (Instr.build t qs).run P w = .ok v' w := by
  unfold buildL at h
  split at h
  case h_2 => exact h.elim
  rename_i l hlt
  obtain ⟨i, d, z, hi, hd, hz, hlz, _, _, hk⟩ := hL.info hlt
  have hzc := (VR.const (P := P) (c := c) hlz).cells
  split at h
  · rename_i fs hfs
    rw [hfs] at hk
    obtain ⟨gs, rfl, rfl⟩ := st_inv hk
    split at h
    case h_2 => exact h.elim
    rename_i q hpl
    split at h
    case h_2 => exact h.elim
    rename_i r hr
    have hpl := placesL_sound hL gs.toList hpl
    obtain ⟨r', g1, g2, g3⟩ := fillL_sound (P := P) (c := c) (nth q) ps qs.toList l.zero.cells z.cells r hl hq hzc.1 hzc.2 hr
    refine ⟨.agg r, .agg r', h, .agg _ _ g2 g3, run_build w t qs r' ?_⟩
    simp only [Program.built, hi, hd, hz, hpl]
    have : (fun x => q.toArray[x]?) = nth q := by funext x; rw [nth_eq]; simp
    rw [this]; exact g1
  · rename_i n e he
    rw [he] at hk
    obtain rfl := arr_inv hk
    split at h
    case h_2 => exact h.elim
    rename_i le hle
    split at h
    case h_2 => exact h.elim
    rename_i r hr
    obtain ⟨i2, _, _, hi2, _, _, _, hs2, _, _⟩ := hL.info hle
    obtain ⟨r', g1, g2, g3⟩ := fillL_sound (P := P) (c := c) _ ps qs.toList l.zero.cells z.cells r hl hq hzc.1 hzc.2 hr
    refine ⟨.agg r, .agg r', h, .agg _ _ g2 g3, run_build w t qs r' ?_⟩
    simp only [Program.built, hi, hd, hz, hi2, hs2]
    exact g1
  · exact h.elim

end
end Den
/- Den, part 6: rows: literals, make, append, cuts. -/
set_option linter.unusedSimpArgs false
set_option linter.unusedVariables false
namespace Den
open Go

/-- Elements of a row, all of one width. -/
def Lens (es : List LV) (sz : Nat) : Prop := ∀ (i : Nat) e, es[i]? = some e → e.cells.length = sz
/-- Elements of a row told by its cells. -/
def RC (P : Program) (c : Cx) (es : List LV) (cs : List Value) (sz : Nat) : Prop :=
  ∀ (i : Nat) e (j : Nat) x x', es[i]? = some e → e.cells[j]? = some x → cs[i * sz + j]? = some x' → VR P c x x'
def FlatE (sz : Nat) (e : LV) : Prop := e.cells.length = sz ∧ e.cells.all LV.one = true

section
variable {P : Program} {L : TypeId → Option Lay} {c : Cx}

theorem Lens.append {es fs : List LV} {sz : Nat} (h : Lens es sz) (k : Lens fs sz) : Lens (es ++ fs) sz := by
  intro i e he
  rw [List.getElem?_append] at he
  split at he
  · exact h i e he
  · exact k _ e he

theorem idx_lt {i j n sz : Nat} (hi : i < n) (hj : j < sz) : i * sz + j < n * sz := by
  have h1 : (i + 1) * sz ≤ n * sz := Nat.mul_le_mul_right _ (by omega)
  rw [Nat.succ_mul] at h1; omega

theorem RC.append {es fs : List LV} {cs ds rest : List Value} {sz : Nat} (h : RC P c es cs sz) (k : RC P c fs ds sz) (hl : Lens es sz) (hl2 : Lens fs sz)
    (hc : cs.length = es.length * sz) (hd : ds.length = fs.length * sz) : RC P c (es ++ fs) (cs ++ ds ++ rest) sz := by
  intro i e j x x' he hx hx'
  rw [List.getElem?_append] at he
  rw [List.append_assoc, List.getElem?_append] at hx'
  split at he
  · rename_i hi
    have hj : j < sz := by rw [← hl i e he]; exact (List.getElem?_eq_some_iff.1 hx).1
    rw [if_pos (by rw [hc]; exact idx_lt hi hj)] at hx'
    exact h i e j x x' he hx hx'
  · rename_i hi
    have hj : j < sz := by rw [← hl2 _ e he]; exact (List.getElem?_eq_some_iff.1 hx).1
    have hi2 : i - es.length < fs.length := (List.getElem?_eq_some_iff.1 he).1
    have e1 : es.length * sz ≤ i * sz := Nat.mul_le_mul_right _ (by omega)
    rw [if_neg (by omega), List.getElem?_append] at hx'
    have e2 : i * sz + j - cs.length = (i - es.length) * sz + j := by rw [hc, Nat.sub_mul]; omega
    rw [e2, if_pos (by rw [hd]; exact idx_lt hi2 hj)] at hx'
    exact k _ e j x x' he hx hx'

theorem RC.mono {c' : Cx} (hE : Ext c c') {es : List LV} {cs : List Value} {sz : Nat} (h : RC P c es cs sz) : RC P c' es cs sz :=
  fun i e j x x' he hx hx' => (h i e j x x' he hx hx').mono hE

theorem Rel.rowRC (hr : Rel P c) {id : Nat} {es : List LV} {t : TypeId} {g : Bool} (h : c.s.get id = some (.row es t g)) :
    ∃ cs, c.w.heap[(c.ι id).1]? = some (.cells cs t (0, 0)) ∧ cs.size = (c.ι id).2 * P.cellsOf t ∧ es.length ≤ (c.ι id).2 ∧ Lens es (P.cellsOf t) ∧ RC P c es cs.toList (P.cellsOf t) := by
  obtain ⟨cs, h1, h2, h3, h4, h5⟩ := hr.row id es t g h
  exact ⟨cs, h1, h2, h3, h4, fun i e j x x' he hx hx' => h5 i e j x x' he hx (by simpa using hx')⟩

/-! ### A new row -/
theorem new_row {K : LV → LS → Prop} {next : Value → World → Prop} (hr : Rel P c) (hg : Goes P c K next) {es : List LV} {cs : Array Value} {t : TypeId} {n cap : Nat} {cc : Option Nat}
    (w1 : World) (h0 : w1.heap = c.w.heap) (h1 : w1.os = c.w.os) (h2 : w1.tape = c.w.tape) (h3 : w1.output = c.w.output)
    (hn : n = es.length) (hsz : cs.size = cap * P.cellsOf t) (hcap : es.length ≤ cap) (hl : Lens es (P.cellsOf t)) (hrc : RC P c es cs.toList (P.cellsOf t)) (hcc : ∀ k, cc = some k → cap = k)
    (hK : K (.hsl c.s.next 0 n cc) (c.s.alloc (.row es t false))) : next (.slice (some ⟨c.w.heap.size, 0, none⟩) n cap) (w1.alloc (.cells cs t)) := by
  subst hn
  have k1 := hr.alloc w1 h0 h1 h2 h3 (.row es t false) cap cs t (.inr ⟨es, false, rfl, hsz, hcap, hl, fun i e j x x' he hx hx' => hrc i e j x x' he hx (by simpa using hx')⟩)
  have k2 := Ext.ofAlloc (c := c) (.cells cs t) (.row es t false) cap w1 h0 h1 h2 h3
  refine hg _ _ _ _ _ hK k1 k2 (.hsl _ _ _ _ _ _ ⟨Nat.lt_succ_self _, fun hR => Nat.lt_irrefl _ (hr.res _ hR).1⟩ hcap hcc fun es' t' g' hg' => ?_)
  simp [LS.alloc] at hg'
  obtain ⟨rfl, rfl, rfl⟩ := hg'
  simp

def setAll (es : List LV) (sz : Nat) : List (Nat × LV) → Option (List LV)
  | [] => some es
  | (i, v) :: r => bif Nat.beq v.cells.length sz && Nat.blt i es.length then setAll (es.set i v) sz r else none

theorem setAll_sound {sz : Nat} : ∀ (ps : List (Nat × LV)) (qs : List (Nat × Value)) (es : List LV) (ds : Array Value) (r : List LV),
    ps.length = qs.length → (∀ (i : Nat) p q, ps[i]? = some p → qs[i]? = some q → p.1 = q.1 ∧ VR P c p.2 q.2) →
    ds.size = es.length * sz → Lens es sz → RC P c es ds.toList sz → setAll es sz ps = some r →
    ∃ r', Instr.fill (fun i => some (i * sz, sz)) ds qs = some r' ∧ r'.size = r.length * sz ∧ r.length = es.length ∧ Lens r sz ∧ RC P c r r'.toList sz := by
  intro ps
  induction ps with
  | nil =>
    intro qs es ds r hl hq hs hle hv h
    cases qs with
    | nil => simp [setAll] at h; subst h; exact ⟨ds, rfl, hs, rfl, hle, hv⟩
    | cons q qs => simp at hl
  | cons p ps ih =>
    intro qs es ds r hl hq hs hle hv h
    cases qs with
    | nil => simp at hl
    | cons q qs =>
      obtain ⟨i, v⟩ := p
      obtain ⟨i', v'⟩ := q
      obtain ⟨e, hvv⟩ := hq 0 (i, v) (i', v') rfl rfl
      simp only at e hvv
      subst e
      simp only [setAll] at h
      cases hb : (Nat.beq v.cells.length sz && Nat.blt i es.length) with
      | false => simp [hb] at h
      | true =>
        simp only [hb, cond_true] at h
        simp only [Bool.and_eq_true] at hb
        have hb1 := Nat.eq_of_beq_eq_true hb.1
        have hb2 : i < es.length := by have := hb.2; simp [Nat.blt] at this; omega
        obtain ⟨hc1, hc2⟩ := hvv.cells
        have hin : (i + 1) * sz ≤ es.length * sz := Nat.mul_le_mul_right _ (by omega)
        rw [Nat.succ_mul] at hin
        obtain ⟨f1, f2⟩ := foldl_set (i * sz) v'.cells.toList 0 ds (by simp; omega)
        have hfold : v'.cells.zipIdx.foldl (fun cs (c, j) => cs.setIfInBounds (i * sz + j) c) ds = (v'.cells.toList.zipIdx 0).foldl (fun cs (c, j) => cs.setIfInBounds (i * sz + j) c) ds := by
          rw [← Array.foldl_toList, Array.toList_zipIdx]
        obtain ⟨r', g1, g2, g3, g4, g5⟩ := ih qs (es.set i v) (v'.cells.zipIdx.foldl (fun cs (c, j) => cs.setIfInBounds (i * sz + j) c) ds) r (by simpa using hl)
          (fun k p q hp hq' => hq (k + 1) p q hp hq') (by rw [hfold, f1]; simpa using hs) (by
            intro k x hx
            rw [List.getElem?_set] at hx
            split at hx
            · simp [hb2] at hx; obtain ⟨_, rfl⟩ := hx; exact hb1
            · exact hle k x hx) (by
            intro k x j y y' hx hy hy'
            rw [hfold] at hy'
            simp only [Array.getElem?_toList] at hy'
            rw [f2] at hy'
            rw [List.getElem?_set] at hx
            split at hx
            · rename_i hki
              subst hki
              simp [hb2] at hx; obtain ⟨_, rfl⟩ := hx
              have hj : j < v.cells.length := (List.getElem?_eq_some_iff.1 hy).1
              rw [if_pos (by simp; omega)] at hy'
              exact hc2 j y y' hy (by simpa using hy')
            · rename_i hki
              have hj : j < sz := by rw [← hle k x hx]; exact (List.getElem?_eq_some_iff.1 hy).1
              rw [if_neg ?_] at hy'
              · exact hv k x j y y' hx hy (by simpa using hy')
              · simp
                intro hge
                rcases Nat.lt_or_gt_of_ne hki with hlt | hgt
                · have : (i + 1) * sz ≤ k * sz := Nat.mul_le_mul_right _ (by omega)
                  rw [Nat.succ_mul] at this; omega
                · have : (k + 1) * sz ≤ i * sz := Nat.mul_le_mul_right _ (by omega)
                  rw [Nat.succ_mul] at this; omega) h
        refine ⟨r', ?_, g2, by simpa using g3, g4, g5⟩
        simp only [Instr.fill]
        rw [if_neg (by simp; omega)]
        exact g1

theorem made_get (z : Array Value) (n sz i j : Nat) (hz : z.size = sz) (hi : i < n) (hj : j < sz) : (madeCells z (n * sz))[i * sz + j]? = z[j]? := by
  have h1 := idx_lt hi hj
  unfold madeCells
  rw [Array.getElem?_map, Array.getElem?_range, if_pos h1]
  simp only [Option.map_some]
  rw [hz, Nat.add_comm, Nat.add_mul_mod_self_right, Nat.mod_eq_of_lt hj]
  have : j < z.size := by omega
  simp [this]

theorem made_RC (hL : LayOk P L) {e : TypeId} {le : Lay} {z : Value} (hz : ofConst z = some le.zero) (n : Nat) (hs : le.zero.cells.length = le.size) :
    RC P c (List.replicate n le.zero) (madeCells z.cells (n * le.size)).toList le.size := by
  intro i x j y y' hx hy hy'
  rw [List.getElem?_replicate] at hx
  split at hx
  · rename_i hi
    simp at hx; subst hx
    have hj : j < le.size := by rw [← hs]; exact (List.getElem?_eq_some_iff.1 hy).1
    obtain ⟨h1, h2⟩ := (VR.const (P := P) (c := c) hz).cells
    simp only [Array.getElem?_toList] at hy'
    rw [made_get z.cells n le.size i j (by omega) hi hj] at hy'
    exact h2 j y y' hy hy'
  · simp at hx

def buildSliceL (L : TypeId → Option Lay) (s : LS) (t : TypeId) (len : Nat) (ps : List (Nat × LV)) (K : LV → LS → Prop) : Prop :=
  match L t with
  | some l => match l.k with
    | .sl e => match L e with
      | some le => bif Nat.beq le.zero.cells.length le.size && Nat.ble (len * le.size) 16777216 && Nat.blt 0 le.size then
          match setAll (List.replicate len le.zero) le.size ps with
          | some es => K (.hsl s.next 0 len (some len)) (s.alloc (.row es e false))
          | none => False
        else False
      | none => False
    | _ => False
  | none => False

theorem buildSliceL_sound (hL : LayOk P L) (hr : Rel P c) {t : TypeId} {len : Nat} {ps : List (Nat × LV)} {qs : Array (Nat × Value)} {K : LV → LS → Prop} {next : Value → World → Prop} (h : buildSliceL L c.s t len ps K)
    (hl : ps.length = qs.toList.length) (hq : ∀ (i : Nat) p q, ps[i]? = some p → qs.toList[i]? = some q → p.1 = q.1 ∧ VR P c p.2 q.2) (hg : Goes P c K next) :
    ∃ v' w', (Instr.buildSlice t len qs).run P c.w = .ok v' w' ∧ next v' w' := by
  unfold buildSliceL at h
  split at h
  case h_2 => exact h.elim
  rename_i l hlt
  obtain ⟨i, d, z, hi, hd, _, _, _, _, hk⟩ := hL.info hlt
  split at h
  case h_2 => exact h.elim
  rename_i e he
  rw [he] at hk
  obtain rfl := sl_inv hk
  split at h
  case h_2 => exact h.elim
  rename_i le hle
  obtain ⟨i2, d2, z2, hi2, hd2, hz2, hlz2, hs2, hb2, _⟩ := hL.info hle
  cases hb : (Nat.beq le.zero.cells.length le.size && Nat.ble (len * le.size) 16777216 && Nat.blt 0 le.size) with
  | false => simp [hb] at h
  | true =>
    simp only [hb, cond_true] at h
    simp only [Bool.and_eq_true] at hb
    have hb1 := Nat.eq_of_beq_eq_true hb.1.1
    have hb3 := Nat.le_of_ble_eq_true hb.1.2
    have hb4 : 0 < le.size := by have := hb.2; simp [Nat.blt] at this; omega
    split at h
    case h_2 => exact h.elim
    rename_i es hes
    have hsz := hL.size hle
    obtain ⟨r', g1, g2, g3, g4, g5⟩ := setAll_sound (P := P) (c := c) (sz := le.size) ps qs.toList (List.replicate len le.zero) (madeCells z2.cells (len * le.size)) es hl hq
      (by simp [size_madeCells]) (by intro k x hx; rw [List.getElem?_replicate] at hx; split at hx <;> simp at hx; subst hx; exact hb1) (made_RC hL (e := e) hlz2 len hb1) hes
    have hlen : es.length = len := by simpa using g3
    refine ⟨_, _, ?_, new_row hr hg (es := es) (cs := r') (t := e) (n := len) (cap := len) (cc := some len) c.w rfl rfl rfl rfl hlen.symm (by rw [g2, hsz, hlen]) (by omega) (by rw [hsz]; exact g4) (by rw [hsz]; exact g5) (by simp) h⟩
    have hgt : ¬ 16777216 < len * le.size := by omega
    by_cases h0 : len * le.size = 0
    · have hlen0 : len = 0 := by rcases Nat.mul_eq_zero.1 h0 with h | h <;> omega
      subst hlen0
      have e0 : Array.range 0 = #[] := rfl
      simp [madeCells, e0] at g1
      simp [Instr.buildSlice, run_underlying hd, Go.sizeOf, typeInfo, hi2, hs2, hgt, e0, g1, newRow]
    · have : (Array.map (fun x => z2.cells[x % z2.cells.size]!) (Array.range (len * le.size))) = madeCells z2.cells (len * le.size) := rfl
      simp [Instr.buildSlice, run_underlying hd, Go.sizeOf, typeInfo, zeroValue, hi2, hs2, hz2, hgt, h0, this, g1, newRow]

def makeSliceL (L : TypeId → Option Lay) (s : LS) (t : TypeId) (x y : LV) (K : LV → LS → Prop) : Prop :=
  match x, y with
  | .int _ n, .int _ m => match L t with
    | some l => match l.k with
      | .sl e => match L e with
        | some le => bif Nat.beq le.zero.cells.length le.size then
            n = m ∧ 0 ≤ n ∧ (le.bytes : Int) * n ≤ 281474976710656 ∧ n ≤ 9223372036854775807 ∧ K (.hsl s.next 0 n.toNat (some n.toNat)) (s.alloc (.row (List.replicate n.toNat le.zero) e false))
          else False
        | none => False
      | _ => False
    | none => False
  | _, _ => False

theorem makeSliceL_sound (hL : LayOk P L) (hr : Rel P c) {t : TypeId} {x y : LV} {x' y' : Value} {K : LV → LS → Prop} {next : Value → World → Prop} (h : makeSliceL L c.s t x y K)
    (hx : VR P c x x') (hy : VR P c y y') (hg : Goes P c K next) :
    ∃ v' w', (Instr.makeSlice t x' y').run P c.w = .ok v' w' ∧ next v' w' := by
  unfold makeSliceL at h
  split at h
  case h_2 => exact h.elim
  rename_i k n k' m
  cases hx; cases hy
  split at h
  case h_2 => exact h.elim
  rename_i l hlt
  obtain ⟨i, d, z, hi, hd, _, _, _, _, hk⟩ := hL.info hlt
  split at h
  case h_2 => exact h.elim
  rename_i e he
  rw [he] at hk
  obtain rfl := sl_inv hk
  split at h
  case h_2 => exact h.elim
  rename_i le hle
  obtain ⟨i2, d2, z2, hi2, hd2, hz2, hlz2, hs2, hb2, _⟩ := hL.info hle
  cases hb : (Nat.beq le.zero.cells.length le.size) with
  | false => simp [hb] at h
  | true =>
    simp only [hb, cond_true] at h
    obtain ⟨rfl, h0, h1, h2, hK⟩ := h
    have hb1 := Nat.eq_of_beq_eq_true hb
    have hsz := hL.size hle
    have hrun := run_make (P := P) c.w t e i2 z2 hd hi2 hz2 k k' n n h0 (Int.le_refl _) (by rw [hb2]; exact h1) h2
    rw [hs2] at hrun
    refine ⟨_, _, hrun, new_row hr hg (es := List.replicate n.toNat le.zero) (t := e) (n := n.toNat) (cap := n.toNat) (cc := some n.toNat) c.w rfl rfl rfl rfl (by simp) (by simp [size_madeCells, hsz]) (by simp) ?_ ?_ (by simp) hK⟩
    · rw [hsz]; intro k x hx; rw [List.getElem?_replicate] at hx; split at hx <;> simp at hx; subst hx; exact hb1
    · rw [hsz]; exact made_RC hL (e := e) hlz2 _ hb1

/-! ### A row that nobody writes -/
theorem Ext.junk {c : Cx} (o : Obj) : Ext c ⟨c.X, c.R, c.ι, c.s, c.w.alloc o⟩ where
  X := rfl
  R := rfl
  next := Nat.le_refl _
  size := by simp
  box _ v _ _ h := ⟨rfl, v, h⟩
  row _ es _ g _ h := ⟨es, g, h, Nat.le_refl _, .inl rfl, id⟩
  mp _ kv _ h := ⟨rfl, kv, h⟩
  zed _ _ h := h
  same b hb _ := alloc_old c.w o b hb
  os := rfl
  tape := rfl
  output := rfl

theorem Rel.junk (hr : Rel P c) (o : Obj) : Rel P ⟨c.X, c.R, c.ι, c.s, c.w.alloc o⟩ := by
  have hE := Ext.junk (c := c) o
  have hold : ∀ b, b < c.w.heap.size → (c.w.alloc o).heap[b]? = c.w.heap[b]? := alloc_old c.w o
  refine ⟨hr.lt, hr.res, fun id o h => Nat.lt_of_lt_of_le (hr.blt id o h) hE.size, hr.inj, hr.dis, fun b h => Nat.lt_of_lt_of_le (hr.xlt b h) hE.size, ?_, ?_, ?_⟩
  · intro id v t h
    obtain ⟨cs, h1, h2, h3⟩ := hr.box id v t h
    exact ⟨cs, by show (c.w.alloc o).heap[_]? = _; rw [hold _ (hr.blt id _ h)]; exact h1, h2, fun j x x' hx hx' => (h3 j x x' hx hx').mono hE⟩
  · intro id es t g h
    obtain ⟨cs, h1, h2, h3, h4, h5⟩ := hr.row id es t g h
    exact ⟨cs, by show (c.w.alloc o).heap[_]? = _; rw [hold _ (hr.blt id _ h)]; exact h1, h2, h3, h4, fun i e j x x' he hx hx' => (h5 i e j x x' he hx hx').mono hE⟩
  · intro id kv h
    obtain ⟨es, cl, h1, h2, h3⟩ := hr.mp id kv h
    exact ⟨es, cl, by show (c.w.alloc o).heap[_]? = _; rw [hold _ (hr.blt id _ h)]; exact h1, h2, fun i p e hp he => by
      obtain ⟨h4, h5, h6⟩ := h3 i p e hp he
      exact ⟨h4.mono hE, h5.mono hE, h6⟩⟩

def litL (L : TypeId → Option Lay) (t : TypeId) (len : Nat) (ps : List (Nat × LV)) (K : LV → Prop) : Prop :=
  match L t with
  | some l => match l.k with
    | .sl e => match L e with
      | some le => bif Nat.beq le.zero.cells.length le.size && Nat.ble (len * le.size) 16777216 && Nat.blt 0 le.size then
          match setAll (List.replicate len le.zero) le.size ps with
          | some es => K (.lit es true)
          | none => False
        else False
      | none => False
    | _ => False
  | none => False

theorem litL_sound (hL : LayOk P L) (hr : Rel P c) {t : TypeId} {len : Nat} {ps : List (Nat × LV)} {qs : Array (Nat × Value)} {K : LV → LS → Prop} {next : Value → World → Prop} (h : litL L t len ps (K · c.s))
    (hl : ps.length = qs.toList.length) (hq : ∀ (i : Nat) p q, ps[i]? = some p → qs.toList[i]? = some q → p.1 = q.1 ∧ VR P c p.2 q.2) (hg : Goes P c K next) :
    ∃ v' w', (Instr.buildSlice t len qs).run P c.w = .ok v' w' ∧ next v' w' := by
  unfold litL at h
  split at h
  case h_2 => exact h.elim
  rename_i l hlt
  obtain ⟨i, d, z, hi, hd, _, _, _, _, hk⟩ := hL.info hlt
  split at h
  case h_2 => exact h.elim
  rename_i e he
  rw [he] at hk
  obtain rfl := sl_inv hk
  split at h
  case h_2 => exact h.elim
  rename_i le hle
  obtain ⟨i2, d2, z2, hi2, hd2, hz2, hlz2, hs2, hb2, _⟩ := hL.info hle
  cases hb : (Nat.beq le.zero.cells.length le.size && Nat.ble (len * le.size) 16777216 && Nat.blt 0 le.size) with
  | false => simp [hb] at h
  | true =>
    simp only [hb, cond_true] at h
    simp only [Bool.and_eq_true] at hb
    have hb1 := Nat.eq_of_beq_eq_true hb.1.1
    have hb3 := Nat.le_of_ble_eq_true hb.1.2
    have hb4 : 0 < le.size := by have := hb.2; simp [Nat.blt] at this; omega
    split at h
    case h_2 => exact h.elim
    rename_i es hes
    have hsz := hL.size hle
    obtain ⟨r', g1, g2, g3, g4, g5⟩ := setAll_sound (P := P) (c := c) (sz := le.size) ps qs.toList (List.replicate len le.zero) (madeCells z2.cells (len * le.size)) es hl hq
      (by simp [size_madeCells]) (by intro k x hx; rw [List.getElem?_replicate] at hx; split at hx <;> simp at hx; subst hx; exact hb1) (made_RC hL (e := e) hlz2 len hb1) hes
    have hlen : es.length = len := by simpa using g3
    have hE := Ext.junk (c := c) (.cells r' e)
    have hR := hr.junk (.cells r' e)
    have hv : VR P ⟨c.X, c.R, c.ι, c.s, c.w.alloc (.cells r' e)⟩ (.lit es true) (.slice (some ⟨c.w.heap.size, 0, none⟩) len len) := by
      refine .lit es true c.w.heap.size 0 len le.size (fun i j => r'.getD (i * le.size + j) undef) len hlen.symm (Nat.le_refl _) (fun _ => rfl) ?_ (by simp) g4 ?_ ?_
      · rintro (hx | ⟨id, o, hx, hy⟩)
        · exact Nat.lt_irrefl _ (hr.xlt _ hx)
        · have := hr.blt id o hx
          simp only at hy
          omega
      · intro i x j y hx hy
        have hi : i < len := by rw [← hlen]; exact (List.getElem?_eq_some_iff.1 hx).1
        have hj : j < le.size := by rw [← g4 i x hx]; exact (List.getElem?_eq_some_iff.1 hy).1
        have hlt : i * le.size + j < r'.size := by rw [g2, hlen]; exact idx_lt hi hj
        simp only [World.cell?, alloc_new]
        simp [hlt]
      · intro i x j y hx hy
        have hi : i < len := by rw [← hlen]; exact (List.getElem?_eq_some_iff.1 hx).1
        have hj : j < le.size := by rw [← g4 i x hx]; exact (List.getElem?_eq_some_iff.1 hy).1
        have hlt : i * le.size + j < r'.size := by rw [g2, hlen]; exact idx_lt hi hj
        refine (g5 i x j y _ hx hy ?_).mono hE
        simp [hlt]
    refine ⟨_, _, ?_, hg _ _ _ _ _ h hR hE hv⟩
    have hgt : ¬ 16777216 < len * le.size := by omega
    by_cases h0 : len * le.size = 0
    · have hlen0 : len = 0 := by rcases Nat.mul_eq_zero.1 h0 with h | h <;> omega
      subst hlen0
      have e0 : Array.range 0 = #[] := rfl
      simp [madeCells, e0] at g1
      simp [Instr.buildSlice, run_underlying hd, Go.sizeOf, typeInfo, hi2, hs2, hgt, e0, g1, newRow]
    · have : (Array.map (fun x => z2.cells[x % z2.cells.size]!) (Array.range (len * le.size))) = madeCells z2.cells (len * le.size) := rfl
      simp [Instr.buildSlice, run_underlying hd, Go.sizeOf, typeInfo, zeroValue, hi2, hs2, hz2, hgt, h0, this, g1, newRow]

end
end Den
/- Den, part 7: append. -/
set_option linter.unusedSimpArgs false
set_option linter.unusedVariables false
namespace Den
open Go

section
variable {P : Program} {L : TypeId → Option Lay} {c : Cx}

/-- The elements that a slice holds. -/
def srcL (s : LS) (e : TypeId) (x : LV) (K : List LV → Prop) : Prop :=
  match x with
  | .nils => K []
  | .lit es _ => K es
  | .hsl id i m _ => match s.get id with
    | some (.row es bt g) => match Nat.beq bt e with
      | true => (g = true → es.length = i + m) ∧ K ((es.drop i).take m)
      | false => False
    | none => m = 0 ∧ K []
    | _ => False
  | _ => False

/-- A slice's cells in memory. -/
structure Flat (P : Program) (c : Cx) (es : List LV) (sz : Nat) (v : Value) (flat : List Value) : Prop where
  len : flat.length = es.length * sz
  rc : RC P c es flat sz
  shape : (v = .slice none 0 0 ∧ es = []) ∨ ∃ a cc, v = .slice a es.length cc ∧ (es ≠ [] → ∃ ad, a = some ad ∧ ∀ (j : Nat) u, flat[j]? = some u → c.w.cell? (ad.add j) = some u)

theorem flat_of_cells {es : List LV} {sz b o cc : Nat} (hl : Lens es sz)
    (h : ∀ (i : Nat) e (j : Nat) x, es[i]? = some e → e.cells[j]? = some x → ∃ x', c.w.cell? ⟨b, o + (i * sz + j), none⟩ = some x' ∧ VR P c x x') :
    ∃ flat, Flat P c es sz (.slice (some ⟨b, o, none⟩) es.length cc) flat := by
  have key : ∀ k, k < es.length * sz → ∃ i e j x, k = i * sz + j ∧ es[i]? = some e ∧ e.cells[j]? = some x := by
    intro k hk
    have hsz : 0 < sz := by rcases Nat.eq_zero_or_pos sz with h0 | h0; · simp [h0] at hk
                            · exact h0
    have hi : k / sz < es.length := Nat.div_lt_of_lt_mul (by rw [Nat.mul_comm]; exact hk)
    have hlen := hl (k / sz) es[k / sz] (by simp [hi])
    have hj : k % sz < es[k / sz].cells.length := by rw [hlen]; exact Nat.mod_lt _ hsz
    exact ⟨k / sz, es[k / sz], k % sz, es[k / sz].cells[k % sz], by rw [Nat.mul_comm]; exact (Nat.div_add_mod k sz).symm, by simp [hi], by simp [hj]⟩
  refine ⟨(List.range (es.length * sz)).map fun k => (c.w.cell? ⟨b, o + k, none⟩).getD undef, by simp, ?_, .inr ⟨_, _, rfl, fun _ => ⟨_, rfl, ?_⟩⟩⟩
  · intro i e j x x' he hx hx'
    have hj : j < sz := by rw [← hl i e he]; exact (List.getElem?_eq_some_iff.1 hx).1
    have hi : i < es.length := (List.getElem?_eq_some_iff.1 he).1
    obtain ⟨y, h1, h2⟩ := h i e j x he hx
    simp [idx_lt hi hj, h1] at hx'
    rw [← hx']; exact h2
  · intro j u hu
    have hj : j < es.length * sz := by have := (List.getElem?_eq_some_iff.1 hu).1; simpa using this
    simp [hj] at hu
    obtain ⟨i, e, q, x, rfl, he, hx⟩ := key j hj
    obtain ⟨y, h1, h2⟩ := h i e q x he hx
    rw [addr_add]
    rw [h1] at hu ⊢
    simpa using hu

theorem srcL_sound (hL : LayOk P L) (hr : Rel P c) {e : TypeId} {le : Lay} (hle : L e = some le) {x : LV} {x' : Value} {K : List LV → Prop} (h : srcL c.s e x K) (hx : VR P c x x') :
    ∃ es, K es ∧ (Lens es le.size → ∃ flat, Flat P c es le.size x' flat) := by
  unfold srcL at h
  split at h
  · cases hx
    exact ⟨[], h, fun _ => ⟨[], by simp, by intro i e j x x' he; simp at he, .inl ⟨rfl, rfl⟩⟩⟩
  · rename_i es full
    refine ⟨es, h, fun hl => ?_⟩
    cases hx with
    | lit0 a cc' _ hf ha => exact ⟨[], by simp, by intro i e j x x' he; simp at he, .inr ⟨a, cc', rfl, by simp⟩⟩
    | lit _ _ b o cc' esz vs n hlen hcap hf hz hb hsz hc hv =>
      subst hlen
      refine flat_of_cells hl fun i e j x he hx => ?_
      have hes : esz = le.size := by rw [← hsz i e he, hl i e he]
      subst hes
      exact ⟨vs i j, hc i e j x he hx, hv i e j x he hx⟩
  · rename_i id i m cc
    split at h
    case h_3 => exact h.elim
    case h_2 =>
      obtain ⟨rfl, h⟩ := h
      cases hx with
      | hsl _ _ _ _ a cc' hn hcap hcc hh => exact ⟨[], h, fun _ => ⟨[], by simp, by intro i e j x x' he; simp at he, .inr ⟨some a, cc', rfl, by simp⟩⟩⟩
    rename_i es bt g hg
    split at h
    case h_2 => exact h.elim
    rename_i hbe
    obtain rfl := Nat.eq_of_beq_eq_true hbe
    obtain ⟨hfull, hK⟩ := h
    refine ⟨_, hK, fun hl => ?_⟩
    cases hx with
    | hsl _ _ _ _ a cc' hn hcap hcc hh =>
      obtain ⟨h1, h2⟩ := hh es bt g hg
      obtain ⟨h3, h4⟩ := h2 (by cases g <;> simp_all)
      have hlen : ((es.drop i).take m).length = m := by simp; omega
      have hsz := hL.size hle
      by_cases hm : m = 0
      · subst hm
        refine ⟨[], by simp, by intro i e j x x' he; simp at he, .inr ⟨some a, cc', by simp, by simp⟩⟩
      obtain rfl := h3 (by omega)
      have := flat_of_cells (P := P) (c := c) (es := (es.drop i).take m) (sz := le.size) (b := (c.ι id).1) (o := i * P.cellsOf bt) (cc := cc') hl fun k e j x he hx => by
        simp [List.getElem?_take] at he
        obtain ⟨y, h5, h6⟩ := hr.at_row hg he.2 j x hx
        refine ⟨y, ?_, h6⟩
        rw [← h5]
        rw [Nat.add_mul, hsz, Nat.add_assoc]
      rwa [hlen] at this
  · exact h.elim

/-- A row is used up: another one takes its place, in its block or in a new one. -/
theorem linear {K : LV → LS → Prop} {next : Value → World → Prop} (hr : Rel P c) (hg : Goes P c K next) {id : Nat} {es es' : List LV} {t : TypeId} {g : Bool} {cs : Array Value} {blk cap : Nat} {w2 : World}
    (hid : c.s.get id = some (.row es t g)) (hblk : blk = (c.ι id).1 ∨ blk = c.w.heap.size) (hsize : c.w.heap.size ≤ w2.heap.size) (hb : blk < w2.heap.size)
    (hsame : ∀ b, b < c.w.heap.size → b ≠ (c.ι id).1 → w2.heap[b]? = c.w.heap[b]?) (hnew : w2.heap[blk]? = some (.cells cs t (0, 0)))
    (h1 : w2.os = c.w.os) (h2 : w2.tape = c.w.tape) (h3 : w2.output = c.w.output)
    (hsz : cs.size = cap * P.cellsOf t) (hcap : es'.length ≤ cap) (hl : Lens es' (P.cellsOf t)) (hrc : RC P c es' cs.toList (P.cellsOf t))
    (hK : K (.hsl c.s.next 0 es'.length none) ((c.s.drop id).alloc (.row es' t false))) : next (.slice (some ⟨blk, 0, none⟩) es'.length cap) w2 := by
  have hidlt := hr.lt id _ hid
  have hne : id ≠ c.s.next := by omega
  have getn : ((c.s.drop id).alloc (.row es' t false)).get c.s.next = some (.row es' t false) := by simp [LS.alloc, LS.drop]
  have geto : ∀ j o, j ≠ c.s.next → ((c.s.drop id).alloc (.row es' t false)).get j = some o → j ≠ id ∧ c.s.get j = some o := by
    intro j o hj h
    have hj' : j ≠ (c.s.drop id).next := hj
    simp only [LS.alloc] at h
    rw [if_neg hj'] at h
    simp only [LS.drop] at h
    split at h
    · cases h
    · rename_i h'; exact ⟨h', h⟩
  have blkn : ∀ j o, j ≠ id → c.s.get j = some o → (c.ι j).1 ≠ blk ∧ (c.ι j).1 ≠ (c.ι id).1 := by
    intro j o hj h
    have h5 : (c.ι j).1 ≠ (c.ι id).1 := fun e => hj (hr.inj j id _ _ h hid e)
    refine ⟨?_, h5⟩
    rcases hblk with e | e
    · rw [e]; exact h5
    · have := hr.blt j o h; omega
  have old : ∀ j o, j ≠ id → c.s.get j = some o → w2.heap[(c.ι j).1]? = c.w.heap[(c.ι j).1]? := fun j o hj h => hsame _ (hr.blt j o h) (blkn j o hj h).2
  have hE : Ext c ⟨c.X, c.R, fun j => if j = c.s.next then (blk, cap) else c.ι j, (c.s.drop id).alloc (.row es' t false), w2⟩ := by
    refine ⟨rfl, rfl, Nat.le_succ _, hsize, ?_, ?_, ?_, ?_, ?_, h1, h2, h3⟩
    · intro j v' t' hj hx
      have e : j ≠ c.s.next := by omega
      exact ⟨by simp [e], v', (geto j _ e hx).2⟩
    · intro j es1 t' g' hj hx
      have e : j ≠ c.s.next := by omega
      exact ⟨es1, g', (geto j _ e hx).2, Nat.le_refl _, .inl (by simp [e]), fun h => h⟩
    · intro j kv hj hx
      have e : j ≠ c.s.next := by omega
      exact ⟨by simp [e], kv, (geto j _ e hx).2⟩
    · intro b hb' ⟨j, o, hj, he⟩
      by_cases e : j = c.s.next
      · subst e
        simp at he
        rcases hblk with e | e
        · exact ⟨id, _, hid, by rw [← e]; exact he⟩
        · omega
      · simp [e] at he
        exact ⟨j, o, (geto j o e hj).2, he⟩
    · intro b hb' hn
      exact hsame b hb' fun e => hn ⟨id, _, hid, e.symm⟩
  have hR : Rel P ⟨c.X, c.R, fun j => if j = c.s.next then (blk, cap) else c.ι j, (c.s.drop id).alloc (.row es' t false), w2⟩ := by
    refine ⟨?_, ?_, ?_, ?_, ?_, ?_, ?_, ?_, ?_⟩
    · intro j o h
      show j < c.s.next + 1
      by_cases e : j = c.s.next
      · omega
      · have := hr.lt j o (geto j o e h).2; omega
    · intro j hR
      obtain ⟨h4, h5⟩ := hr.res j hR
      refine ⟨Nat.lt_succ_of_lt h4, ?_⟩
      cases hx : ((c.s.drop id).alloc (.row es' t false)).get j with
      | none => rfl
      | some o =>
        have := (geto j o (by omega) hx).2
        rw [h5] at this; cases this
    · intro j o h
      by_cases e : j = c.s.next
      · simp only [e, if_true]; exact hb
      · simp only [e, if_false]; exact Nat.lt_of_lt_of_le (hr.blt j o (geto j o e h).2) hsize
    · intro j j' o o' h h' he
      by_cases e : j = c.s.next <;> by_cases e' : j' = c.s.next
      · rw [e, e']
      · obtain ⟨h4, h5⟩ := geto j' o' e' h'
        simp [e, e'] at he
        exact absurd he.symm (blkn j' o' h4 h5).1
      · obtain ⟨h4, h5⟩ := geto j o e h
        simp [e, e'] at he
        exact absurd he (blkn j o h4 h5).1
      · simp [e, e'] at he
        exact hr.inj j j' o o' (geto j o e h).2 (geto j' o' e' h').2 he
    · intro b hb' hl'
      exact hr.dis b hb' (hE.zed b (hr.xlt b hb') hl')
    · intro b hb'
      exact Nat.lt_of_lt_of_le (hr.xlt b hb') hsize
    · intro j v t' hx
      by_cases e : j = c.s.next
      · subst e; rw [getn] at hx; cases hx
      · obtain ⟨h4, h5⟩ := geto j _ e hx
        obtain ⟨cs', k1, k2, k3⟩ := hr.box j v t' h5
        exact ⟨cs', by simp only [e, if_false]; rw [old j _ h4 h5]; exact k1, k2, fun q x x' hx hx' => (k3 q x x' hx hx').mono hE⟩
    · intro j es1 t' g' hx
      by_cases e : j = c.s.next
      · subst e
        rw [getn] at hx
        simp at hx
        obtain ⟨rfl, rfl, rfl⟩ := hx
        exact ⟨cs, by simpa using hnew, by simpa using hsz, by simpa using hcap, hl, fun i e q x x' he hx hx' => (hrc i e q x x' he hx (by simpa using hx')).mono hE⟩
      · obtain ⟨h4, h5⟩ := geto j _ e hx
        obtain ⟨cs', k1, k2, k3, k4, k5⟩ := hr.row j es1 t' g' h5
        exact ⟨cs', by simp only [e, if_false]; rw [old j _ h4 h5]; exact k1, by simpa [e] using k2, by simpa [e] using k3, k4, fun i e q x x' he hx hx' => (k5 i e q x x' he hx hx').mono hE⟩
    · intro j kv hx
      by_cases e : j = c.s.next
      · subst e; rw [getn] at hx; cases hx
      · obtain ⟨h4, h5⟩ := geto j _ e hx
        obtain ⟨es2, cl, k1, k2, k3⟩ := hr.mp j kv h5
        refine ⟨es2, cl, by simp only [e, if_false]; rw [old j _ h4 h5]; exact k1, k2, fun i p en hp hen => ?_⟩
        obtain ⟨k4, k5, k6⟩ := k3 i p en hp hen
        exact ⟨k4.mono hE, k5.mono hE, k6⟩
  refine hg _ _ _ _ _ hK hR hE (.hsl _ _ _ _ _ _ ⟨Nat.lt_succ_self _, fun hR => by have := (hr.res _ hR).1; omega⟩ hcap (by simp) fun es1 t' g' hg' => ?_)
  rw [getn] at hg'
  simp at hg'
  obtain ⟨rfl, rfl, rfl⟩ := hg'
  simp

/-- Elements are put over others. -/
def over (es : List LV) (n : Nat) (news : List LV) : List LV := es.take n ++ news ++ es.drop (n + news.length)

def appendL (L : TypeId → Option Lay) (s : LS) (t : TypeId) (x y : LV) (K : LV → LS → Prop) : Prop :=
  match L t with
  | some l => match l.k with
    | .sl e => match L e with
      | some le => srcL s e y fun news => match news with
        | [] => match x with
          | .nils => K x s
          | .hsl _ _ _ _ => K x s
          | .lit _ _ => K x s
          | _ => False
        | v :: r => (∀ u ∈ v :: r, FlatE le.size u) ∧ match x with
          | .nils => (v :: r).length * le.bytes ≤ 140737488355328 ∧ K (.hsl s.next 0 (v :: r).length none) (s.alloc (.row (v :: r) e false))
          | .hsl id i n cc => match s.get id with
            | some (.row es bt g) => match Nat.beq bt e && !g with
              | true => match cc with
                | some k => match Nat.ble (n + (v :: r).length) k with
                  | true => match i with
                    | 0 => match Nat.ble (n + (v :: r).length) es.length with
                      | true => K (.hsl id 0 (n + (v :: r).length) (some k)) (s.upd id (.row (over es n (v :: r)) e false))
                      | false => False
                    | _ + 1 => False
                  | false => (n + (v :: r).length) * le.bytes ≤ 140737488355328 ∧ K (.hsl s.next 0 (((es.drop i).take n) ++ v :: r).length none) (s.alloc (.row ((es.drop i).take n ++ v :: r) e false))
                | none => match i with
                  | 0 => match Nat.ble (n + (v :: r).length) es.length with
                    | true => K (.hsl id 0 (n + (v :: r).length) none) (s.upd id (.row (over es n (v :: r)) e false))
                    | false => (n + (v :: r).length) * le.bytes ≤ 140737488355328 ∧ K (.hsl s.next 0 (es.take n ++ v :: r).length none) ((s.drop id).alloc (.row (es.take n ++ v :: r) e false))
                  | _ + 1 => False
              | false => False
            | _ => False
          | .lit es full => full = true ∧ (∀ u ∈ es, FlatE le.size u) ∧ (es ++ v :: r).length * le.bytes ≤ 140737488355328 ∧ K (.hsl s.next 0 (es ++ v :: r).length none) (s.alloc (.row (es ++ v :: r) e false))
          | _ => False
      | none => False
    | _ => False
  | none => False

theorem Lens.of_flat {es : List LV} {sz : Nat} (h : ∀ u ∈ es, FlatE sz u) : Lens es sz := fun i e he => (h e (List.mem_of_getElem? he)).1

theorem Flat.one {es : List LV} {sz : Nat} {v : Value} {flat : List Value} (hf : Flat P c es sz v flat) (h : ∀ u ∈ es, FlatE sz u) : ∀ u ∈ flat, u.oneCell' = true := by
  intro u hu
  obtain ⟨k, hk⟩ := List.getElem?_of_mem hu
  have hkl : k < es.length * sz := by rw [← hf.len]; exact (List.getElem?_eq_some_iff.1 hk).1
  have hsz : 0 < sz := by
    rcases Nat.eq_zero_or_pos sz with h0 | h0
    · simp [h0] at hkl
    · exact h0
  have hi : k / sz < es.length := Nat.div_lt_of_lt_mul (by rw [Nat.mul_comm]; exact hkl)
  have hl := h es[k / sz] (List.getElem_mem hi)
  have hj : k % sz < es[k / sz].cells.length := by rw [hl.1]; exact Nat.mod_lt _ hsz
  have hkk : k / sz * sz + k % sz = k := by rw [Nat.mul_comm]; exact Nat.div_add_mod k sz
  have := hf.rc (k / sz) es[k / sz] (k % sz) es[k / sz].cells[k % sz] u (by simp [hi]) (by simp [hj]) (by rw [hkk]; exact hk)
  exact oneCell_of this (List.all_eq_true.1 hl.2 _ (List.getElem_mem hj))

theorem run_append_none {t ty e : TypeId} {i : TypeInfo} (ht : P.underlying t = some (.slice e)) (hi : P.info? e = some i) (b a : Option Addr) (n cap cc : Nat) (hn : n ≤ cap) (w : World) :
    (Builtin.append_ #[t, t] ty #[.slice b n cap, .slice a 0 cc]).run P w = .ok (.slice b n cap) w := by
  have hf : (Builtin.firstCells i.size 0 (.slice a 0 cc)).run P w = .ok #[] w := by
    cases a with
    | none => simp [Builtin.firstCells]
    | some a => simp [Builtin.firstCells, loadCells, loadCellsFrom]
  cases b with
  | none => simp [Builtin.append_, run_underlying ht, Go.sizeOf, typeInfo, hi, Builtin.lenOf, hn, hf]
  | some b => simp [Builtin.append_, run_underlying ht, Go.sizeOf, typeInfo, hi, Builtin.lenOf, hn, hf, storeCells]

theorem take_RC {cur : Array Value} {es : List LV} {sz : Nat} (h : RC P c es cur.toList sz) (hl : Lens es sz) : RC P c es (cur.toList.take (es.length * sz)) sz := by
  intro i e j x x' he hx hx'
  have hj : j < sz := by rw [← hl i e he]; exact (List.getElem?_eq_some_iff.1 hx).1
  have hi : i < es.length := (List.getElem?_eq_some_iff.1 he).1
  rw [List.getElem?_take, if_pos (idx_lt hi hj)] at hx'
  exact h i e j x x' he hx hx'

theorem le_max {n b : Nat} (h : n * b ≤ 140737488355328) (hb : 0 < b) : n ≤ 140737488355328 := Nat.le_trans (Nat.le_mul_of_pos_right _ hb) h

theorem appendL_sound (hL : LayOk P L) (hr : Rel P c) {t ty : TypeId} {x y : LV} {x' y' : Value} {K : LV → LS → Prop} {next : Value → World → Prop} (h : appendL L c.s t x y K)
    (hx : VR P c x x') (hy : VR P c y y') (hbytes : ∀ l, L t = some l → ∀ e, l.k = .sl e → ∀ le, L e = some le → 0 < le.bytes ∧ le.zero.cells.length = le.size) (hg : Goes P c K next) :
    ∃ v' w', (Builtin.append_ #[t, t] ty #[x', y']).run P c.w = .ok v' w' ∧ next v' w' := by
  unfold appendL at h
  split at h
  case h_2 => exact h.elim
  rename_i l hlt
  obtain ⟨i, d, z, hi, hd, _, _, _, _, hk⟩ := hL.info hlt
  split at h
  case h_2 => exact h.elim
  rename_i e he
  rw [he] at hk
  obtain rfl := sl_inv hk
  split at h
  case h_2 => exact h.elim
  rename_i le hle
  obtain ⟨hpos, hzlen⟩ := hbytes l hlt e he le hle
  obtain ⟨i2, d2, z2, hi2, hd2, hz2, hlz2, hs2, hb2, _⟩ := hL.info hle
  have hsz := hL.size hle
  have hz2c : z2.cells.size = le.size := by rw [(VR.const (P := P) (c := c) hlz2).cells.1, hzlen]
  obtain ⟨news, hK, hflat⟩ := srcL_sound hL hr hle h hy
  cases news with
  | nil =>
    obtain ⟨flat, hf⟩ := hflat (fun i e he => by simp at he)
    have hy0 : ∃ a cc, y' = .slice a 0 cc := by
      rcases hf.shape with ⟨h1, _⟩ | ⟨a, cc, h1, _⟩
      · exact ⟨_, _, h1⟩
      · exact ⟨a, cc, by simpa using h1⟩
    obtain ⟨a, cc, rfl⟩ := hy0
    cases hx with
    | nils => exact ⟨_, _, run_append_none hd hi2 _ _ _ _ _ (Nat.le_refl _) _, hg.same hK hr .nils⟩
    | hsl id i n cc a cc' hn hcap hcc hh => exact ⟨_, _, run_append_none hd hi2 _ _ _ _ _ hcap _, hg.same hK hr (.hsl id i n cc a cc' hn hcap hcc hh)⟩
    | lit0 a cc' full hf ha => exact ⟨_, _, run_append_none hd hi2 _ _ _ _ _ (Nat.zero_le _) _, hg.same hK hr (.lit0 a cc' full hf ha)⟩
    | lit es full b o cc' esz vs n hlen hcap hf hz hb hsz hc hv => exact ⟨_, _, run_append_none hd hi2 _ _ _ _ _ hcap _, hg.same hK hr (.lit es full b o cc' esz vs n hlen hcap hf hz hb hsz hc hv)⟩
    | _ => exact hK.elim
  | cons v r =>
    obtain ⟨hfl, hK⟩ := hK
    obtain ⟨flat, hf⟩ := hflat (Lens.of_flat hfl)
    have hone := hf.one hfl
    have hlenN := Lens.of_flat hfl
    obtain ⟨a, cc, rfl, had⟩ : ∃ a cc, y' = .slice (some a) (v :: r).length cc ∧ ∀ (j : Nat) u, flat[j]? = some u → c.w.cell? (a.add j) = some u := by
      rcases hf.shape with ⟨_, h1⟩ | ⟨a, cc, h1, h2⟩
      · simp at h1
      · obtain ⟨ad, rfl, h3⟩ := h2 (by simp)
        exact ⟨ad, cc, h1, h3⟩
    have hfl2 : flat.length = (v :: r).length * i2.size := by rw [hs2]; exact hf.len
    generalize hN : v :: r = N at *
    have hNpos : 0 < N.length := by rw [← hN]; simp
    cases hx with
    | nils =>
      obtain ⟨hb1, hK⟩ := hK
      have hm := le_max hb1 hpos
      have hrun := run_append_nil (P := P) c.w t ty e i2 z2 hd hi2 hz2 a N.length cc flat hfl2 had hNpos (by omega) (by rw [hb2]; omega)
      refine ⟨_, _, hrun, new_row hr hg (es := N) (t := e) (n := N.length) (cc := none) c.w.drew rfl rfl rfl rfl rfl ?_ (grownCap_ge _ _ _ _) (by rw [hsz]; exact hlenN) ?_ (by simp) hK⟩
      · have := grownCap_ge c.w N.length 0 e
        simp only [Array.size_append, List.size_toArray, size_zeroCells, hz2c, hf.len, hsz, ← Nat.add_mul]
        congr 1; omega
      · rw [hsz]
        have := RC.append (P := P) (c := c) (es := []) (fs := N) (cs := []) (ds := flat) (rest := (Builtin.zeroCells z2.cells (grownCap c.w N.length 0 e - N.length)).toList) (sz := le.size)
          (by intro i e j x x' he; simp at he) hf.rc (by intro i e he; simp at he) hlenN (by simp) hf.len
        simpa using this
    | hsl id i0 n cc0 a0 cc' hn hcap hcc hh =>
      simp only at hK
      split at hK
      case h_2 => exact hK.elim
      rename_i es bt g hid
      split at hK
      case h_2 => exact hK.elim
      rename_i hbe
      simp only [Bool.and_eq_true, Bool.not_eq_true'] at hbe
      obtain ⟨hbe, rfl⟩ := hbe
      obtain rfl := Nat.eq_of_beq_eq_true hbe
      obtain ⟨cur, h1, h2, h3, h4, h5⟩ := hr.rowRC hid
      obtain ⟨h6, h7⟩ := hh es bt false hid
      obtain ⟨h8, h9, h10⟩ := h7 (.inl rfl)
      rw [hsz] at h2 h4 h5 h8
      have overK : ∀ cc2 : Option Nat, n + N.length ≤ es.length → n + N.length ≤ cc' → (∀ k, cc2 = some k → cc' = k) → (cc2 = none → cc' = (c.ι id).2) → K (.hsl id 0 (n + N.length) cc2) (c.s.upd id (.row (over es n N) bt false)) → i0 = 0 →
          ∃ v' w', (Builtin.append_ #[t, t] ty #[.slice (some a0) n cc', .slice (some a) N.length cc]).run P c.w = .ok v' w' ∧ next v' w' := by
        intro cc2 hle hroom hcc2 hcc3 hK2 hi0
        subst hi0
        simp only [Nat.zero_add, Nat.zero_mul] at h6 h8 h9
        have hlenO : Lens (es.take n) le.size := fun j e he => by
          simp [List.getElem?_take] at he
          exact h4 _ e he.2
        have hlenO2 : (es.take n).length = n := by simp; omega
        have hrcO : RC P c (es.take n) (cur.toList.take (n * le.size)) le.size := by
          have := take_RC (P := P) (c := c) (cur := cur) (es := es.take n) (sz := le.size) (fun j e q x x' he hx hx' => by
            simp [List.getElem?_take] at he
            exact h5 j e q x x' he.2 hx hx') hlenO
          rwa [hlenO2] at this
        have hfit0 : n * le.size ≤ cur.size := by rw [h2]; exact Nat.mul_le_mul_right _ (by omega)
        have hlo : (cur.toList.take (n * le.size)).length = n * i2.size := by simp; rw [hs2]; exact Nat.min_eq_left hfit0
        obtain rfl := h8 (by omega)
        have hfit : n * i2.size + flat.length ≤ cur.size := by
          rw [hfl2, ← Nat.add_mul, h2, hs2]; exact Nat.mul_le_mul_right _ (by omega)
        have hrun := run_append_room (P := P) c.w t ty bt i2 hd hi2 (c.ι id).1 n cc' cur h1 a N.length cc flat hfl2 had hone (by omega) hfit
        have hlenV : (over es n N).length = es.length := by unfold over; simp; omega
        have hlensV : Lens (over es n N) le.size := by
          unfold over
          refine (hlenO.append hlenN).append fun j e he => ?_
          rw [List.getElem?_drop] at he
          exact h4 _ e he
        have hrcV : RC P c (over es n N) (cur.toList.take (n * i2.size) ++ flat ++ cur.toList.drop (n * i2.size + flat.length)) le.size := by
          unfold over
          rw [hs2]
          have k1 := RC.append (P := P) (c := c) (rest := []) hrcO hf.rc hlenO hlenN (by rw [hlo, hs2, hlenO2]) hf.len
          rw [List.append_nil] at k1
          have k2 : RC P c (es.drop (n + N.length)) ((cur.toList.drop (n * le.size + flat.length)).take ((es.length - (n + N.length)) * le.size)) le.size := by
            intro j e q x x' he hx hx'
            rw [List.getElem?_drop] at he
            have hq : q < le.size := by rw [← h4 _ e he]; exact (List.getElem?_eq_some_iff.1 hx).1
            have hj := (List.getElem?_eq_some_iff.1 he).1
            rw [List.getElem?_take, if_pos (idx_lt (by omega) hq), List.getElem?_drop] at hx'
            refine h5 _ e q x x' he hx ?_
            rw [← hx', hf.len, ← Nat.add_mul, ← Nat.add_assoc, ← Nat.add_mul]
          have k3 := RC.append (P := P) (c := c) (rest := (cur.toList.drop (n * le.size + flat.length)).drop ((es.length - (n + N.length)) * le.size)) k1 k2 (hlenO.append hlenN) (fun j e he => by rw [List.getElem?_drop] at he; exact h4 _ e he)
            (by rw [List.length_append, hlo, hs2, hf.len, List.length_append, hlenO2, Nat.add_mul]) (by
              simp only [List.length_take, List.length_drop, Array.length_toList]
              rw [h2, hf.len, ← Nat.add_mul, ← Nat.sub_mul]
              exact Nat.min_eq_left (Nat.mul_le_mul_right _ (by omega)))
          rw [List.append_assoc (List.take (n * le.size) cur.toList ++ flat), List.take_append_drop] at k3
          exact k3
        obtain ⟨w1, w2⟩ := hr.write (cur.toList.take (n * i2.size) ++ flat ++ cur.toList.drop (n * i2.size + flat.length)).toArray hid (.inr ⟨es, over es n N, bt, false, rfl, rfl, hlenV, by
          simp only [List.size_toArray, List.length_append, List.length_take, List.length_drop, Array.length_toList]
          rw [hsz, ← h2]; omega, by rw [hsz]; exact hlensV, fun i e j x x' he hx hx' => by rw [hsz] at hx'; exact hrcV i e j x x' he hx (by simpa using hx')⟩)
        refine ⟨_, _, hrun, hg _ _ _ _ _ hK2 w1 w2 (.hsl _ _ _ _ _ _ ⟨hr.lt id _ hid, fun hR => by have := (hr.res id hR).2; rw [hid] at this; cases this⟩ (by omega) hcc2 fun es1 t' g' hg' => ?_)⟩
        simp [LS.upd] at hg'
        obtain ⟨rfl, rfl, rfl⟩ := hg'
        rw [hlenV]
        refine ⟨by omega, fun _ => ⟨fun _ => by simp, ?_, fun h => ?_⟩⟩
        · show 0 + cc' ≤ (c.ι id).2; omega
        · show 0 + cc' = (c.ι id).2; have := hcc3 h; omega
      split at hK
      · -- its room is known
        rename_i k
        have hck := hcc k rfl
        subst hck
        split at hK
        · rename_i hbk
          have hroom := Nat.le_of_ble_eq_true hbk
          split at hK
          case h_2 => exact hK.elim
          split at hK
          case h_2 => exact hK.elim
          rename_i hbl
          exact overK (some cc') (Nat.le_of_ble_eq_true hbl) hroom (fun k h => by injection h) (fun h => by cases h) hK rfl
        rename_i hnb
        have hgt : cc' < n + N.length := by
          rcases Nat.lt_or_ge cc' (n + N.length) with h | h
          · exact h
          · rw [Nat.ble_eq_true_of_le h] at hnb; cases hnb
        obtain ⟨hb1, hK⟩ := hK
        have hm := le_max hb1 hpos
        have hlenO : Lens ((es.drop i0).take n) le.size := by
          intro j e he
          simp [List.getElem?_take] at he
          exact h4 _ e he.2
        have hlenO2 : ((es.drop i0).take n).length = n := by simp; omega
        have holds : ∀ (j : Nat) u, ((cur.toList.drop (i0 * le.size)).take (n * le.size))[j]? = some u → c.w.cell? (a0.add j) = some u := by
          intro j u hu
          rw [List.getElem?_take] at hu
          split at hu
          · rename_i hjn
            have hn0 : 0 < n := by
              rcases Nat.eq_zero_or_pos n with h0 | h0
              · rw [h0] at hjn; simp at hjn
              · exact h0
            obtain rfl := h8 (by omega)
            rw [addr_add, cell_of_row c.w _ _ cur bt (0, 0) h1]
            simpa using hu
          · cases hu
        have hlo : ((cur.toList.drop (i0 * le.size)).take (n * le.size)).length = n * i2.size := by
          simp
          rw [h2, hs2, ← Nat.sub_mul]
          exact Nat.min_eq_left (Nat.mul_le_mul_right _ (by omega))
        have hrcO : RC P c ((es.drop i0).take n) ((cur.toList.drop (i0 * le.size)).take (n * le.size)) le.size := by
          intro j e q x x' he hx hx'
          simp [List.getElem?_take] at he
          have hq : q < le.size := by rw [← h4 _ e he.2]; exact (List.getElem?_eq_some_iff.1 hx).1
          rw [List.getElem?_take, if_pos (idx_lt he.1 hq), List.getElem?_drop] at hx'
          refine h5 _ e q x x' he.2 hx ?_
          rw [← hx', Nat.add_mul, Nat.add_assoc]
        have hrun := run_append_grow (P := P) c.w t ty bt i2 z2 hd hi2 hz2 a0 n cc' _ hlo holds a N.length cc flat hfl2 had hgt (by omega) (growslice_fits (by omega) (by rw [hb2]; exact hb1))
        have hlenT : ((es.drop i0).take n ++ N).length = n + N.length := by rw [List.length_append, hlenO2]
        refine ⟨_, _, hrun, new_row hr hg (es := (es.drop i0).take n ++ N) (t := bt) (n := n + N.length) (cc := none) c.w.drew rfl rfl rfl rfl hlenT.symm ?_ (by rw [hlenT]; exact grownCap_ge _ _ _ _) (by rw [hsz]; exact hlenO.append hlenN) ?_ (by simp) (by rw [← hlenT]; exact hK)⟩
        · have := grownCap_ge c.w (n + N.length) cc' bt
          simp only [Array.size_append, List.size_toArray, size_zeroCells, hz2c, hf.len, hlo, hs2, hsz, ← Nat.add_mul]
          congr 1; omega
        · rw [hsz]
          have := RC.append (P := P) (c := c) (rest := (Builtin.zeroCells z2.cells (grownCap c.w (n + N.length) cc' bt - (n + N.length))).toList) hrcO hf.rc hlenO hlenN (by rw [hlo, hs2, hlenO2]) hf.len
          simpa using this
      · split at hK
        case h_2 => exact hK.elim
        have h10 := h10 rfl
        simp only [Nat.zero_add, Nat.zero_mul] at h6 h8 h9 h10
        have hlenO : Lens (es.take n) le.size := fun j e he => by
          simp [List.getElem?_take] at he
          exact h4 _ e he.2
        have hlenO2 : (es.take n).length = n := by simp; omega
        have hrcO : RC P c (es.take n) (cur.toList.take (n * le.size)) le.size := by
          have := take_RC (P := P) (c := c) (cur := cur) (es := es.take n) (sz := le.size) (fun j e q x x' he hx hx' => by
            simp [List.getElem?_take] at he
            exact h5 j e q x x' he.2 hx hx') hlenO
          rwa [hlenO2] at this
        have hfit0 : n * le.size ≤ cur.size := by rw [h2]; exact Nat.mul_le_mul_right _ (by omega)
        have hlo : (cur.toList.take (n * le.size)).length = n * i2.size := by simp; rw [hs2]; exact Nat.min_eq_left hfit0
        split at hK
        · -- it is put over what is there
          rename_i hbl
          have hle := Nat.le_of_ble_eq_true hbl
          exact overK none hle (by omega) (by simp) (fun _ => h10) hK rfl
        · rename_i hnb
          obtain ⟨hb1, hK⟩ := hK
          have hm := le_max hb1 hpos
          have hlenT : (es.take n ++ N).length = n + N.length := by rw [List.length_append, hlenO2]
          by_cases hroom : n + N.length ≤ cc'
          · obtain rfl := h8 (by omega)
            have hfit : n * i2.size + flat.length ≤ cur.size := by
              rw [hfl2, ← Nat.add_mul, h2, hs2]; exact Nat.mul_le_mul_right _ (by omega)
            have hrun := run_append_room (P := P) c.w t ty bt i2 hd hi2 (c.ι id).1 n cc' cur h1 a N.length cc flat hfl2 had hone hroom hfit
            rw [← hlenT] at hrun
            refine ⟨_, _, hrun, linear hr hg hid (.inl rfl) (by simp) (by simpa using hr.blt id _ hid) (fun b hb hne => setRow_other _ _ _ _ (fun e => hne e)) (setRow_heap _ _ cur _ bt _ h1) rfl rfl rfl ?_ (by rw [hlenT]; exact hroom) (by rw [hsz]; exact hlenO.append hlenN) ?_ hK⟩
            · rw [hsz, h10, ← h2]; simp; omega
            · rw [hsz]
              simp only [hs2]
              have := RC.append (P := P) (c := c) (rest := cur.toList.drop (n * le.size + flat.length)) hrcO hf.rc hlenO hlenN (by rw [hlo, hs2, hlenO2]) hf.len
              simpa using this
          · have holds : ∀ (j : Nat) u, (cur.toList.take (n * le.size))[j]? = some u → c.w.cell? (a0.add j) = some u := by
              intro j u hu
              have hj : 0 < n := by
                rcases Nat.eq_zero_or_pos n with h0 | h0
                · rw [h0] at hu; simp at hu
                · exact h0
              obtain rfl := h8 (by omega)
              rw [addr_add, Nat.zero_add, cell_of_row c.w _ j cur bt (0, 0) h1]
              rw [List.getElem?_take] at hu
              split at hu
              · simpa using hu
              · cases hu
            have hrun := run_append_grow (P := P) c.w t ty bt i2 z2 hd hi2 hz2 a0 n cc' _ hlo holds a N.length cc flat hfl2 had (by omega) (by omega) (growslice_fits (by omega) (by rw [hb2]; exact hb1))
            rw [← hlenT] at hrun
            refine ⟨_, _, hrun, linear hr hg hid (.inr rfl) (by simp) (by simp) (fun b hb hne => alloc_old _ _ _ hb) (by exact alloc_new c.w.drew _) rfl rfl rfl ?_ (grownCap_ge _ _ _ _) (by rw [hsz]; exact hlenO.append hlenN) ?_ hK⟩
            · have := grownCap_ge c.w (es.take n ++ N).length cc' bt
              simp only [Array.size_append, List.size_toArray, size_zeroCells, hz2c, hf.len, hlo, hs2, hsz, ← Nat.add_mul]
              congr 1; omega
            · rw [hsz]
              have := RC.append (P := P) (c := c) (rest := (Builtin.zeroCells z2.cells (grownCap c.w (es.take n ++ N).length cc' bt - (es.take n ++ N).length)).toList) hrcO hf.rc hlenO hlenN (by rw [hlo, hs2, hlenO2]) hf.len
              simpa using this
    | lit0 a0 cc' full hff haa =>
      obtain ⟨hfull, _, hb1, hK⟩ := hK
      subst hfull
      have hcc0 := hff rfl
      subst hcc0
      have hm := le_max hb1 hpos
      simp only [List.nil_append] at hb1 hm hK
      cases a0 with
      | none =>
        have hrun := run_append_nil (P := P) c.w t ty e i2 z2 hd hi2 hz2 a N.length cc flat hfl2 had hNpos (by omega) (by rw [hb2]; omega)
        refine ⟨_, _, hrun, new_row hr hg (es := N) (t := e) (n := N.length) (cc := none) c.w.drew rfl rfl rfl rfl rfl ?_ (grownCap_ge _ _ _ _) (by rw [hsz]; exact hlenN) ?_ (by simp) hK⟩
        · have := grownCap_ge c.w N.length 0 e
          simp only [Array.size_append, List.size_toArray, size_zeroCells, hz2c, hf.len, hsz, ← Nat.add_mul]
          congr 1; omega
        · rw [hsz]
          have := RC.append (P := P) (c := c) (es := []) (fs := N) (cs := []) (ds := flat) (rest := (Builtin.zeroCells z2.cells (grownCap c.w N.length 0 e - N.length)).toList) (sz := le.size)
            (by intro i e j x x' he; simp at he) hf.rc (by intro i e he; simp at he) hlenN (by simp) hf.len
          simpa using this
      | some a0 =>
        have hrun := run_append_grow (P := P) c.w t ty e i2 z2 hd hi2 hz2 a0 0 0 [] (by simp) (by simp) a N.length cc flat hfl2 had (by omega) (by omega) (growslice_fits (by omega) (by rw [hb2]; simpa using hb1))
        simp only [Nat.zero_add] at hrun
        refine ⟨_, _, hrun, new_row hr hg (es := N) (t := e) (n := N.length) (cc := none) c.w.drew rfl rfl rfl rfl rfl ?_ (grownCap_ge _ _ _ _) (by rw [hsz]; exact hlenN) ?_ (by simp) hK⟩
        · have := grownCap_ge c.w N.length 0 e
          simp only [Array.size_append, List.size_toArray, size_zeroCells, hz2c, hf.len, hsz, ← Nat.add_mul, List.length_nil, Nat.zero_add, Array.size_empty]
          congr 1; omega
        · rw [hsz]
          have := RC.append (P := P) (c := c) (es := []) (fs := N) (cs := []) (ds := flat) (rest := (Builtin.zeroCells z2.cells (grownCap c.w N.length 0 e - N.length)).toList) (sz := le.size)
            (by intro i e j x x' he; simp at he) hf.rc (by intro i e he; simp at he) hlenN (by simp) hf.len
          simpa using this
    | lit es full b o cc' esz vs n hlen hcap hff hz hb hszz hc hv =>
      obtain ⟨hfull, hfe, hb1, hK⟩ := hK
      subst hfull
      subst hlen
      have hcc0 := hff rfl
      subst hcc0
      have hm := le_max hb1 hpos
      have hlenE := Lens.of_flat hfe
      have hlen2 : (es ++ N).length = es.length + N.length := by simp
      obtain ⟨olds, ho⟩ := flat_of_cells (P := P) (c := c) (es := es) (sz := le.size) (b := b) (o := o) (cc := es.length) hlenE fun i e j x he hx => by
        have hes : esz = le.size := by rw [← hszz i e he, hlenE i e he]
        subst hes
        exact ⟨vs i j, hc i e j x he hx, hv i e j x he hx⟩
      have holds : ∀ (j : Nat) u, olds[j]? = some u → c.w.cell? ((⟨b, o, none⟩ : Addr).add j) = some u := by
        rcases ho.shape with ⟨h1, _⟩ | ⟨a1, cc1, h1, h2⟩
        · cases h1
        · intro j u hu
          have hne : es ≠ [] := by
            intro h0
            have := ho.len
            rw [h0] at this
            simp at this
            rw [this] at hu; simp at hu
          obtain ⟨ad, h3, h4⟩ := h2 hne
          injection h1 with e1 e2 e3
          rw [h3] at e1; injection e1 with e1; rw [e1]
          exact h4 j u hu
      have hrun := run_append_grow (P := P) c.w t ty e i2 z2 hd hi2 hz2 ⟨b, o, none⟩ es.length es.length olds (by rw [ho.len, hs2]) holds a N.length cc flat hfl2 had (by omega) (by omega) (growslice_fits (by omega) (by rw [hb2, ← hlen2]; exact hb1))
      rw [← hlen2] at hrun
      refine ⟨_, _, hrun, new_row hr hg (es := es ++ N) (t := e) (n := (es ++ N).length) (cc := none) c.w.drew rfl rfl rfl rfl rfl ?_ (grownCap_ge _ _ _ _) (by rw [hsz]; exact hlenE.append hlenN) ?_ (by simp) hK⟩
      · have := grownCap_ge c.w (es ++ N).length es.length e
        simp only [Array.size_append, List.size_toArray, size_zeroCells, hz2c, hf.len, ho.len, hsz, ← Nat.add_mul]
        congr 1; omega
      · rw [hsz]
        have := RC.append (P := P) (c := c) (rest := (Builtin.zeroCells z2.cells (grownCap c.w (es ++ N).length es.length e - (es ++ N).length)).toList) ho.rc hf.rc hlenE hlenN ho.len hf.len
        simpa using this
    | _ => exact hK.elim

end
end Den
/- Den, part 8: cuts, lengths, parts; an operation, whole. -/
set_option linter.unusedSimpArgs false
set_option linter.unusedVariables false
namespace Den
open Go

section
variable {P : Program} {L : TypeId → Option Lay} {c : Cx}

theorem extract_str (s : List UInt8) (l h : Nat) : (⟨⟨s⟩⟩ : ByteArray).extract l h = ⟨⟨(s.take h).drop l⟩⟩ := by
  apply ByteArray.ext
  simp [ByteArray.data_extract]
  rw [List.drop_take]

def optI (o : Option LV) (d : Int) : Option Int := match o with
  | none => some d
  | some (.int _ n) => some n
  | some _ => none

def mxNil (mx : Option LV) : Prop := match mx with
  | none => True
  | some m => match m with
    | .int _ m => m = 0
    | _ => False

/-- A cut: lower and upper bound, and that of what may be grown into. -/
def sliceL (L : TypeId → Option Lay) (s : LS) (t : TypeId) (x : LV) (lo hi mx : Option LV) (K : LV → Prop) : Prop :=
  match L t with
  | some lt => match lt.k with
    | .str => match x with
      | .str b => match mx with
        | none => match optI lo 0, optI hi b.length with
          | some l, some h => 0 ≤ l ∧ l ≤ h ∧ h ≤ b.length ∧ K (.str ((b.take h.toNat).drop l.toNat))
          | _, _ => False
        | some _ => False
      | _ => False
    | .sl e => match L e with
      | some le => match x with
        | .nils => mxNil mx ∧ match optI lo 0, optI hi 0 with
          | some l, some h => l = 0 ∧ h = 0 ∧ K .nils
          | _, _ => False
        | .lit es _ => match optI lo 0, optI hi es.length with
          | some l, some h => match mx with
            | none => 0 ≤ l ∧ l ≤ h ∧ h ≤ es.length ∧ (∀ u ∈ es, u.cells.length = le.size) ∧ K (.lit ((es.take h.toNat).drop l.toNat) false)
            | some m => (match m with | .int _ m => m = h | _ => False) ∧ 0 ≤ l ∧ l ≤ h ∧ h ≤ es.length ∧ (∀ u ∈ es, u.cells.length = le.size) ∧ K (.lit ((es.take h.toNat).drop l.toNat) true)
          | _, _ => False
        | .hsl id i n cc => match s.get id with
          | some (.row es bt g) => match optI lo 0, optI hi n with
            | some l, some h => match mx with
              | none => (match Nat.beq bt e with | true => True | false => False) ∧ (g = true → es.length = i + n) ∧ 0 ≤ l ∧ l ≤ h ∧ h ≤ n ∧ (g = true → h = n) ∧ K (.hsl id (i + l.toNat) (h.toNat - l.toNat) (cc.map (· - l.toNat)))
              | some m => (match m with | .int _ m => m = h | _ => False) ∧ (match Nat.beq bt e with | true => True | false => False) ∧ (g = true → es.length = i + n) ∧ 0 ≤ l ∧ l ≤ h ∧ h ≤ n ∧ (g = true → h = n) ∧ K (.hsl id (i + l.toNat) (h.toNat - l.toNat) (some (h.toNat - l.toNat)))
            | _, _ => False
          | _ => False
        | _ => False
      | none => False
    | _ => False
  | none => False

theorem run_sliceBound {k : IntKind} {n : Int} {y : Nat} {code : BoundsCode} (h0 : 0 ≤ n) (h1 : n ≤ y) (w : World) : (Instr.sliceBound (.int k n) y code).run P w = .ok n.toNat w := by
  simp [Instr.sliceBound, asIntOf, h0, h1]

theorem optI_run {lo : Option LV} {d l : Int} (h : optI lo d = some l) : (lo = none ∧ l = d) ∨ ∃ k, lo = some (.int k l) := by
  unfold optI at h
  split at h
  · simp at h; exact .inl ⟨rfl, h.symm⟩
  · simp at h; subst h; exact .inr ⟨_, rfl⟩
  · simp at h

/-- An optional operand's value. -/
inductive VO (P : Program) (c : Cx) : Option LV → Option Value → Prop
  | nil : VO P c none none
  | just {v : LV} {v' : Value} (h : VR P c v v') : VO P c (some v) (some v')

theorem VO.none_inv {o : Option Value} (h : VO P c none o) : o = none := by cases h; rfl
theorem VO.int_inv {k : IntKind} {n : Int} {o : Option Value} (h : VO P c (some (.int k n)) o) : o = some (.int k n) := by
  cases h with
  | just hv => cases hv; rfl

theorem run_bounds {lo hi : Option LV} {lo' hi' : Option Value} {l h : Int} {len cap : Nat} (b : Bool) (hlo : VO P c lo lo') (hhi : VO P c hi hi') (el : optI lo 0 = some l) (eh : optI hi len = some h)
    (h0 : 0 ≤ l) (h1 : l ≤ h) (h2 : h ≤ len) (h3 : len ≤ cap) (w : World) :
    (Instr.sliceBounds b len cap lo' hi' none).run P w = .ok (l.toNat, h.toNat, cap) w := by
  have B1 : ∀ k code, (Instr.sliceBound (.int k h) cap code).run P w = .ok h.toNat w := fun k code => run_sliceBound (by omega) (by omega) w
  have B2 : ∀ k code, (Instr.sliceBound (.int k l) h.toNat code).run P w = .ok l.toNat w := fun k code => run_sliceBound h0 (by omega) w
  rcases optI_run eh with ⟨rfl, rfl⟩ | ⟨k, rfl⟩
  · obtain rfl := hhi.none_inv
    rcases optI_run el with ⟨rfl, rfl⟩ | ⟨k', rfl⟩
    · obtain rfl := hlo.none_inv
      simp [Instr.sliceBounds]
    · obtain rfl := hlo.int_inv
      simp only [Int.toNat_natCast] at B2
      simp [Instr.sliceBounds, B2]
  · obtain rfl := hhi.int_inv
    rcases optI_run el with ⟨rfl, rfl⟩ | ⟨k', rfl⟩
    · obtain rfl := hlo.none_inv
      simp [Instr.sliceBounds, B1]
    · obtain rfl := hlo.int_inv
      simp [Instr.sliceBounds, B1, B2]

theorem run_bounds3 {lo hi : Option LV} {lo' hi' : Option Value} {l h : Int} {len cap : Nat} {k : IntKind} (b : Bool) (hlo : VO P c lo lo') (hhi : VO P c hi hi') (el : optI lo 0 = some l) (eh : optI hi len = some h) (hs : hi.isSome = true)
    (h0 : 0 ≤ l) (h1 : l ≤ h) (h2 : h ≤ len) (h3 : len ≤ cap) (w : World) :
    (Instr.sliceBounds b len cap lo' hi' (some (.int k h))).run P w = .ok (l.toNat, h.toNat, h.toNat) w := by
  have B0 : ∀ k code, (Instr.sliceBound (.int k h) cap code).run P w = .ok h.toNat w := fun k code => run_sliceBound (by omega) (by omega) w
  have B1 : ∀ k code, (Instr.sliceBound (.int k h) h.toNat code).run P w = .ok h.toNat w := fun k code => run_sliceBound (by omega) (by omega) w
  have B2 : ∀ k code, (Instr.sliceBound (.int k l) h.toNat code).run P w = .ok l.toNat w := fun k code => run_sliceBound h0 (by omega) w
  rcases optI_run eh with ⟨rfl, rfl⟩ | ⟨k, rfl⟩
  · simp at hs
  · obtain rfl := hhi.int_inv
    rcases optI_run el with ⟨rfl, rfl⟩ | ⟨k', rfl⟩
    · obtain rfl := hlo.none_inv
      simp [Instr.sliceBounds, B0, B1]
    · obtain rfl := hlo.int_inv
      simp [Instr.sliceBounds, B0, B1, B2]

theorem run_cut {t e : TypeId} {i2 : TypeInfo} (hd : P.underlying t = some (.slice e)) (hi2 : P.info? e = some i2) {a : Option Addr} {n cap l h m : Nat} {lo' hi' mx' : Option Value} {w : World}
    (hb : (Instr.sliceBounds true n cap lo' hi' mx').run P w = .ok (l, h, m) w) :
    (Instr.sliceAt t (.slice a n cap) lo' hi' mx').run P w = .ok (.slice (if m = l then a else a.map (·.add (l * i2.size))) (h - l) (m - l)) w := by
  simp [Instr.sliceAt, Instr.slice, run_underlying hd, hb, Go.sizeOf, typeInfo, hi2]

/-- A literal's cut. -/
theorem VR.cut {es : List LV} {full full' : Bool} {a : Option Addr} {n cap l h m sz : Nat} (hv : VR P c (.lit es full) (.slice a n cap)) (hsz : ∀ u ∈ es, u.cells.length = sz) (h1 : l ≤ h) (h2 : h ≤ es.length) (h3 : h ≤ m)
    (hf : full' = true → m = h) (hm : m ≤ cap) : VR P c (.lit ((es.take h).drop l) full') (.slice (if m = l then a else a.map (·.add (l * sz))) (h - l) (m - l)) := by
  by_cases hlh : l = h
  · subst hlh
    have : (es.take l).drop l = [] := by simp
    rw [this, Nat.sub_self]
    refine .lit0 _ _ _ (fun h => by have := hf h; omega) fun ha => ?_
    by_cases hml : m = l
    · omega
    · rw [if_neg hml] at ha
      cases hv with
      | lit0 a cc' _ hf' ha' =>
        cases a with
        | none => have := ha' rfl; omega
        | some a => cases ha
      | lit _ _ b o cc' esz vs n hlen hcap hf' hz hb hsz' hc hvv => cases ha
  · cases hv with
    | lit0 a cc' _ hf' ha' => simp at h2; omega
    | lit _ _ b o cc' esz vs n hlen hcap hf' hz hb hsz' hc hvv =>
      have hpos : 0 < es.length := by omega
      have hesz : esz = sz := by rw [← hsz' 0 es[0] (by simp [hpos]), hsz _ (List.getElem_mem hpos)]
      subst hesz
      rw [if_neg (by omega)]
      simp only [Option.map_some, addr_add]
      refine .lit _ _ b (o + l * esz) (m - l) esz (fun i j => vs (l + i) j) (h - l) (by simp; omega) (by omega) (fun h => by have := hf h; omega) hz hb ?_ ?_ ?_
      · intro i e he; simp [List.getElem?_drop, List.getElem?_take] at he; exact hsz' _ e he.2
      · intro i e j v he hj
        simp [List.getElem?_drop, List.getElem?_take] at he
        have := hc (l + i) e j v he.2 hj
        rw [← this, Nat.add_mul]
        congr 2; omega
      · intro i e j v he hj
        simp [List.getElem?_drop, List.getElem?_take] at he
        exact hvv (l + i) e j v he.2 hj

theorem sliceL_sound (hL : LayOk P L) (hr : Rel P c) {t : TypeId} {x : LV} {x' : Value} {lo hi mx : Option LV} {lo' hi' mx' : Option Value} {K : LV → Prop} (h : sliceL L c.s t x lo hi mx K)
    (hx : VR P c x x') (hlo : VO P c lo lo') (hhi : VO P c hi hi') (hmx : VO P c mx mx') (hms : mx.isSome = true → hi.isSome = true) (w : World) :
    ∃ v v', K v ∧ VR P c v v' ∧ (Instr.sliceAt t x' lo' hi' mx').run P w = .ok v' w := by
  unfold sliceL at h
  split at h
  case h_2 => exact h.elim
  rename_i lt hlt
  obtain ⟨i, d, z, hi1, hd, _, _, _, _, hk⟩ := hL.info hlt
  split at h
  · rename_i hks
    rw [hks] at hk
    obtain rfl := str_inv hk
    split at h
    case h_2 => exact h.elim
    rename_i b
    split at h
    case h_2 => exact h.elim
    split at h
    case h_2 => exact h.elim
    rename_i l u hl hu
    obtain ⟨h0, h1, h2, hK⟩ := h
    cases hx
    cases hmx
    refine ⟨_, _, hK, .str _, ?_⟩
    have hb := run_bounds (P := P) (c := c) (len := b.length) (cap := b.length) false hlo hhi hl hu h0 h1 h2 (Nat.le_refl _) w
    simp only [Instr.sliceAt, Instr.slice, Sem.run_bind, run_underlying hd, Result.andThen_ok]
    have hsz : (⟨⟨b⟩⟩ : ByteArray).size = b.length := by simp [ByteArray.size]
    simp [hsz, hb, extract_str]
  · rename_i e hke
    rw [hke] at hk
    obtain rfl := sl_inv hk
    split at h
    case h_2 => exact h.elim
    rename_i le hle
    obtain ⟨i2, _, _, hi2, _, _, _, hs2, _, _⟩ := hL.info hle
    split at h
    · obtain ⟨hmn, h⟩ := h
      split at h
      case h_2 => exact h.elim
      rename_i l u hl hu
      obtain ⟨rfl, rfl, hK⟩ := h
      cases hx
      unfold mxNil at hmn
      split at hmn
      · cases hmx
        have hb := run_bounds (P := P) (c := c) (len := 0) (cap := 0) true hlo hhi hl hu (Int.le_refl _) (Int.le_refl _) (by simp) (Nat.le_refl _) w
        exact ⟨_, _, hK, .nils, by simpa using run_cut hd hi2 (a := none) hb⟩
      · split at hmn
        case h_2 => exact hmn.elim
        rename_i km mm
        subst hmn
        cases hmx with
        | just hmv =>
          cases hmv
          have hb := run_bounds3 (P := P) (c := c) (k := km) (len := 0) (cap := 0) true hlo hhi hl hu (hms rfl) (Int.le_refl _) (Int.le_refl _) (by simp) (Nat.le_refl _) w
          exact ⟨_, _, hK, .nils, by simpa using run_cut hd hi2 (a := none) hb⟩
    · rename_i es full
      split at h
      case h_2 => exact h.elim
      rename_i l u hl hu
      have hform : ∃ a cap, x' = .slice a es.length cap ∧ es.length ≤ cap := by
        cases hx with
        | lit0 a cc' _ hf' ha' => exact ⟨a, cc', rfl, Nat.zero_le _⟩
        | lit _ _ b o cc' esz vs n hlen hcap hf' hz hb hsz' hc hvv => subst hlen; exact ⟨_, _, rfl, hcap⟩
      obtain ⟨a, cap, rfl, hcap⟩ := hform
      split at h
      · obtain ⟨h0, h1, h2, hsz, hK⟩ := h
        cases hmx
        have hb := run_bounds (P := P) (c := c) (len := es.length) (cap := cap) true hlo hhi hl hu h0 h1 h2 hcap w
        refine ⟨_, _, hK, ?_, run_cut hd hi2 hb⟩
        rw [hs2]
        exact VR.cut hx hsz (by omega) (by omega) (by omega) (by simp) (Nat.le_refl _)
      · rename_i m
        obtain ⟨hm, h0, h1, h2, hsz, hK⟩ := h
        split at hm
        case h_2 => exact hm.elim
        rename_i km mm
        subst hm
        cases hmx with
        | just hmv =>
          cases hmv
          have hb := run_bounds3 (P := P) (c := c) (k := km) (len := es.length) (cap := cap) true hlo hhi hl hu (hms rfl) h0 h1 h2 hcap w
          refine ⟨_, _, hK, ?_, run_cut hd hi2 hb⟩
          rw [hs2]
          exact VR.cut hx hsz (by omega) (by omega) (Nat.le_refl _) (by simp) (by omega)
    · rename_i id i0 n cc
      split at h
      case h_2 => exact h.elim
      rename_i es bt g hg
      split at h
      case h_2 => exact h.elim
      rename_i l u hl hu
      cases hx with
      | hsl _ _ _ _ a cc' hn hcap hcc hh =>
        have hsz := hL.size hle
        obtain ⟨k1, k2⟩ := hh es bt g hg
        have fin : ∀ (m : Nat) (cc1 : Option Nat), bt = e → 0 ≤ l → l ≤ u → u ≤ n → (g = true → es.length = i0 + n) → (g = true → u = n) → u.toNat ≤ m → m ≤ cc' → (∀ k, cc1 = some k → m - l.toNat = k) → (cc1 = none → cc = none ∧ m = cc') →
            VR P c (.hsl id (i0 + l.toNat) (u.toNat - l.toNat) cc1) (.slice (if m = l.toNat then some a else (some a).map (·.add (l.toNat * i2.size))) (u.toNat - l.toNat) (m - l.toNat)) := by
          intro m cc1 hbt h0 h1 h2 hfull hfu h3 h4 h5 h6
          subst hbt
          have : (if m = l.toNat then some a else (some a).map (·.add (l.toNat * i2.size))) = some (if m = l.toNat then a else a.add (l.toNat * i2.size)) := by split <;> rfl
          rw [this]
          refine .hsl _ _ _ _ _ _ hn (by omega) (fun k hk => h5 k hk) fun es' bt' g' hg' => ?_
          rw [hg] at hg'
          injection hg' with hg'
          injection hg' with e1 e2 e3
          subst e1; subst e2; subst e3
          refine ⟨by omega, fun hx => ?_⟩
          obtain ⟨k3, k4, k5⟩ := k2 (by
            rcases hx with hx | hx
            · exact .inl hx
            · cases g with
              | false => exact .inl rfl
              | true => exact .inr (hfull rfl))
          refine ⟨fun hpos => ?_, by omega, fun hc => ?_⟩
          case refine_2 =>
            obtain ⟨h7, h8⟩ := h6 hc
            have := k5 h7
            omega
          rw [if_neg (by omega), k3 (by omega), addr_add, hs2, hsz, ← Nat.add_mul]
        split at h
        · obtain ⟨hbt, hfull, h0, h1, h2, hfu, hK⟩ := h
          have hbt : bt = e := by
            split at hbt
            · exact Nat.eq_of_beq_eq_true (by assumption)
            · exact hbt.elim
          cases hmx
          have hb := run_bounds (P := P) (c := c) (len := n) (cap := cc') true hlo hhi hl hu h0 h1 h2 hcap w
          refine ⟨_, _, hK, fin cc' _ hbt h0 h1 h2 hfull hfu (by omega) (Nat.le_refl _) ?_ ?_, run_cut hd hi2 hb⟩
          · intro k hk
            cases cc with
            | none => simp at hk
            | some q => simp at hk; rw [hcc q rfl]; exact hk
          · intro hk
            cases cc with
            | none => exact ⟨rfl, rfl⟩
            | some q => simp at hk
        · rename_i m
          obtain ⟨hm, hbt, hfull, h0, h1, h2, hfu, hK⟩ := h
          have hbt : bt = e := by
            split at hbt
            · exact Nat.eq_of_beq_eq_true (by assumption)
            · exact hbt.elim
          split at hm
          case h_2 => exact hm.elim
          rename_i km mm
          subst hm
          cases hmx with
          | just hmv =>
            cases hmv
            have hb := run_bounds3 (P := P) (c := c) (k := km) (len := n) (cap := cc') true hlo hhi hl hu (hms rfl) h0 h1 h2 hcap w
            exact ⟨_, _, hK, fin _ _ hbt h0 h1 h2 hfull hfu (Nat.le_refl _) (by omega) (by intro k hk; simpa using hk) (by simp), run_cut hd hi2 hb⟩
    · exact h.elim
  · exact h.elim

end
end Den
/- Den, part 9: an operation, whole. -/
set_option linter.unusedSimpArgs false
set_option linter.unusedVariables false
namespace Den
open Go

section
variable {P : Program} {L : TypeId → Option Lay} {c : Cx}

theorem bsize (l : List UInt8) : (⟨⟨l⟩⟩ : ByteArray).size = l.length := rfl

def lenL (L : TypeId → Option Lay) (t : TypeId) (x : LV) (K : LV → Prop) : Prop :=
  match L t with
  | some l => match l.k with
    | .str => match x with
      | .str s => K (.int .i64 s.length)
      | _ => False
    | .sl _ => match x with
      | .lit es _ => K (.int .i64 es.length)
      | .hsl _ _ n _ => K (.int .i64 n)
      | .nils => K (.int .i64 0)
      | _ => False
    | .arr n _ => K (.int .i64 n)
    | _ => False
  | none => False

theorem lenL_sound (hL : LayOk P L) {t ty : TypeId} {x : LV} {x' : Value} {K : LV → Prop} (h : lenL L t x K) (hx : VR P c x x') (w : World) :
    ∃ v v', K v ∧ VR P c v v' ∧ (Builtin.len_ #[t] ty #[x']).run P w = .ok v' w := by
  unfold lenL at h
  split at h
  case h_2 => exact h.elim
  rename_i l hl
  obtain ⟨i, d, z, hi, hd, _, _, _, _, hk⟩ := hL.info hl
  split at h
  · rename_i e; rw [e] at hk; obtain rfl := str_inv hk
    split at h
    case h_2 => exact h.elim
    cases hx
    exact ⟨_, _, h, .int _ _, by simp [Builtin.len_, run_underlying hd, goInt, bsize]⟩
  · rename_i e; rw [e] at hk; obtain rfl := sl_inv hk
    split at h
    · cases hx with
      | lit0 a cc' _ hf ha => exact ⟨_, _, h, .int _ _, by simp [Builtin.len_, run_underlying hd, goInt]⟩
      | lit _ _ b o cc' esz vs n hlen hcap hf hz hb hsz hc hv => subst hlen; exact ⟨_, _, h, .int _ _, by simp [Builtin.len_, run_underlying hd, goInt]⟩
    · cases hx; exact ⟨_, _, h, .int _ _, by simp [Builtin.len_, run_underlying hd, goInt]⟩
    · cases hx; exact ⟨_, _, h, .int _ _, by simp [Builtin.len_, run_underlying hd, goInt]⟩
    · exact h.elim
  · rename_i e; rw [e] at hk; obtain rfl := arr_inv hk
    exact ⟨_, _, h, .int _ _, by simp [Builtin.len_, run_underlying hd, goInt]⟩
  · exact h.elim

def indexL (L : TypeId → Option Lay) (t : TypeId) (x i : LV) (K : LV → Prop) : Prop :=
  match i with
  | .int _ n => match L t with
    | some l => match l.k with
      | .arr len e => match x with
        | .agg cs => match L e with
          | some le => 0 ≤ n ∧ n < len ∧ ∃ v, partL L e cs (n.toNat * le.size) = some v ∧ K v
          | none => False
        | _ => False
      | .str => match x with
        | .str s => 0 ≤ n ∧ ∃ b, s[n.toNat]? = some b ∧ K (.int .u8 b.toNat)
        | _ => False
      | _ => False
    | none => False
  | _ => False

theorem indexL_sound (hL : LayOk P L) {t : TypeId} {x i : LV} {x' i' : Value} {K : LV → Prop} (h : indexL L t x i K) (hx : VR P c x x') (hi : VR P c i i') (w : World) :
    ∃ v v', K v ∧ VR P c v v' ∧ (Instr.index t x' i').run P w = .ok v' w := by
  unfold indexL at h
  split at h
  case h_2 => exact h.elim
  rename_i k n
  cases hi
  split at h
  case h_2 => exact h.elim
  rename_i l hl
  obtain ⟨i, d, z, hi, hd, _, _, _, _, hk⟩ := hL.info hl
  split at h
  · rename_i e; rw [e] at hk; obtain rfl := arr_inv hk
    split at h
    case h_2 => exact h.elim
    split at h
    case h_2 => exact h.elim
    rename_i le hle
    obtain ⟨i2, _, _, hi2, _, _, _, hs2, _, _⟩ := hL.info hle
    obtain ⟨h0, h1, v, hv, hK⟩ := h
    cases hx with
    | agg cs ds hlen hvv =>
      obtain ⟨v', h3, h4⟩ := part_part hL hlen hvv hv w
      refine ⟨v, v', hK, h4, ?_⟩
      simp [Instr.index, asIntOf, run_underlying hd, h0, h1, Go.sizeOf, typeInfo, hi2, hs2, h3]
  · rename_i e; rw [e] at hk; obtain rfl := str_inv hk
    split at h
    case h_2 => exact h.elim
    rename_i s
    obtain ⟨h0, b, hb, hK⟩ := h
    cases hx
    refine ⟨_, _, hK, .int _ _, ?_⟩
    have hlt : n.toNat < s.length := (List.getElem?_eq_some_iff.1 hb).1
    have hlt2 : n.toNat < (⟨⟨s⟩⟩ : ByteArray).size := by rw [bsize]; exact hlt
    have hg : (⟨⟨s⟩⟩ : ByteArray)[n.toNat]? = some b := by
      have e1 : (⟨⟨s⟩⟩ : ByteArray)[n.toNat]? = some ((⟨⟨s⟩⟩ : ByteArray)[n.toNat]'hlt2) := getElem?_pos (⟨⟨s⟩⟩ : ByteArray) n.toNat hlt2
      rw [e1]
      have : s[n.toNat] = b := (List.getElem?_eq_some_iff.1 hb).2
      rw [← this]; rfl
    simp only [Instr.index, Sem.run_bind, asIntOf, Sem.run_pure, Result.andThen_ok, run_underlying hd, h0, if_true, hg]
  · exact h.elim

def fieldL (L : TypeId → Option Lay) (t : TypeId) (x : LV) (f : Nat) (K : LV → Prop) : Prop :=
  match L t with
  | some l => match l.k with
    | .st fs => match nth fs f with
      | some (off, ft) => match x with
        | .agg cs => oneOf (partL L ft cs off) K
        | _ => False
      | none => False
    | _ => False
  | none => False

theorem fieldL_sound (hL : LayOk P L) {t : TypeId} {x : LV} {x' : Value} {f : Nat} {K : LV → Prop} (h : fieldL L t x f K) (hx : VR P c x x') (w : World) :
    ∃ v v', K v ∧ VR P c v v' ∧ (Instr.field t x' f).run P w = .ok v' w := by
  unfold fieldL at h
  split at h
  case h_2 => exact h.elim
  rename_i l hl
  obtain ⟨i, d, z, hi, hd, _, _, _, _, hk⟩ := hL.info hl
  split at h
  case h_2 => exact h.elim
  rename_i fs e
  rw [e] at hk
  obtain ⟨gs, rfl, rfl⟩ := st_inv hk
  split at h
  case h_2 => exact h.elim
  rename_i off ft hf
  rw [nth_eq] at hf
  simp at hf
  obtain ⟨fd, hfd, rfl, rfl⟩ := hf
  split at h
  case h_2 => exact h.elim
  obtain ⟨v, hv, hK⟩ := oneOf_elim h
  cases hx with
  | agg cs ds hlen hvv =>
    obtain ⟨v', h3, h4⟩ := part_part hL hlen hvv hv w
    exact ⟨v, v', hK, h4, by simp [Instr.field, run_underlying hd, hfd, asAgg, h3]⟩

def extractL (x : LV) (i : Nat) (K : LV → Prop) : Prop := match x with
  | .tup vs => oneOf (nth vs i) K
  | _ => False

theorem extractL_sound {x : LV} {x' : Value} {i : Nat} {K : LV → Prop} (h : extractL x i K) (hx : VR P c x x') (w : World) :
    ∃ v v', K v ∧ VR P c v v' ∧ (Instr.extract x' i).run P w = .ok v' w := by
  unfold extractL at h
  split at h
  case h_2 => exact h.elim
  obtain ⟨v, hv, hK⟩ := oneOf_elim h
  rw [nth_eq] at hv
  cases hx with
  | tup cs ds hlen hvv =>
    have hi : i < ds.size := by rw [hlen]; exact (List.getElem?_eq_some_iff.1 hv).1
    exact ⟨v, ds[i], hK, hvv i v _ hv (by simp [hi]), by simp [Instr.extract, hi]⟩

structure Env where
  L : TypeId → Option Lay
  H : Nat → List LV → LS → LV → LS → Prop
  B : Bool

def LayGood (L : TypeId → Option Lay) : Prop := ∀ t l, L t = some l → 0 < l.size ∧ 0 < l.bytes ∧ l.zero.cells.length = l.size

/-- The contract of a call, told in the model. -/
def Holds (P : Program) (f : Nat) (args : List LV) (s : LS) (v : LV) (s' : LS) : Prop :=
  (∃ fn, P.funcs[f]? = some fn ∧ fn.body.isNone = false ∧ (fn.name == "runtime.NumGoroutine") = false) ∧
  ∀ X R ι w (args' : Array Value), Rel P ⟨X, R, ι, s, w⟩ → args'.size = args.length → (∀ (i : Nat) v v', args[i]? = some v → args'[i]? = some v' → VR P ⟨X, R, ι, s, w⟩ v v') →
    Calls P f args' w fun e w' => ∃ ι' v', e = .returned v' ∧ Rel P ⟨X, R, ι', s', w'⟩ ∧ Ext ⟨X, R, ι, s, w⟩ ⟨X, R, ι', s', w'⟩ ∧ VR P ⟨X, R, ι', s', w'⟩ v v'

def builtinL (E : Env) (b : Builtin) (ts : List TypeId) (vs : List LV) (s : LS) (K : LV → LS → Prop) : Prop :=
  match b with
  | .len => match ts with
    | [t] => match vs with
      | [x] => lenL E.L t x (K · s)
      | _ => False
    | _ => False
  | .append => match ts with
    | [t, u] => match vs with
      | [x, y] => match Nat.beq t u with
        | true => appendL E.L s t x y K
        | false => False
      | _ => False
    | _ => False
  | .max => match vs with
    | [.int k a, .int _ b] => K (.int k (if b > a then b else a)) s
    | _ => False
  | .min => match vs with
    | [.int k a, .int _ b] => K (.int k (if b < a then b else a)) s
    | _ => False
  | .complex => match vs with
    | [.flt k a, .flt k' b] => k = k' ∧ K (.cpx k a b) s
    | _ => False
  | .real => match vs with
    | [.cpx k a _] => K (.flt k a) s
    | _ => False
  | .imag => match vs with
    | [.cpx k _ a] => K (.flt k a) s
    | _ => False
  | _ => False

def callL (E : Env) (A : Fr) (c : Call) (s : LS) (K : LV → LS → Prop) : Prop :=
  match evs A c.args.toList with
  | some vs => match c.callee with
    | .builtin b => builtinL E b c.argTypes.toList vs s K
    | .value f => match ev A f with
      | some (.fn g cs) => ∃ v s', E.H g (vs ++ cs) s v s' ∧ K v s'
      | _ => False
    | .invoke _ _ => False
  | none => False

def evo (A : Fr) : Option Operand → Option (Option LV)
  | none => some none
  | some x => match ev A x with
    | some v => some (some v)
    | none => none

def opL (E : Env) (A : Fr) (o : Oper) (s : LS) (K : LV → LS → Prop) : Prop :=
  match o.op with
  | .move x => oneOf (ev A x) fun v => K v s
  | .assign x => oneOf (ev A x) fun v => K v s
  | .pick b x y => oneOf (ev A b) fun v => match v with
    | .bool true => oneOf (ev A x) fun v => K v s
    | .bool false => oneOf (ev A y) fun v => K v s
    | _ => False
  | .alloc t => allocL E.L s t K
  | .box t x => oneOf (ev A x) fun v => K (.bptr s.next 0) (s.alloc (.box v t))
  | .build t ps => match evps A ps.toList with
    | some vs => buildL E.L t vs (K · s)
    | none => False
  | .buildSlice t n ps => match evps A ps.toList with
    | some vs => match E.B with
      | true => litL E.L t n vs (K · s)
      | false => buildSliceL E.L s t n vs K
    | none => False
  | .load t x => oneOf (ev A x) fun p => loadL E.L s t p (K · s)
  | .store t x y => oneOf (ev A x) fun p => oneOf (ev A y) fun v => storeL E.L s t p v (K (.tup []))
  | .nilCheck x => oneOf (ev A x) fun p => match p with
    | .bptr id j => K (.bptr id j) s
    | .rptr id i j l => K (.rptr id i j l) s
    | .lptr e j => K (.lptr e j) s
    | _ => False
  | .binOp op t x y _ => oneOf (ev A x) fun v => oneOf (ev A y) fun u => binL E.L op t v u (K · s)
  | .unOp op _ x => oneOf (ev A x) fun v => unL op v (K · s)
  | .convert src dst x => oneOf (ev A x) fun v => convL E.L src dst v (K · s)
  | .makeFunc fn fs cs => match fn with
    | .func f => match fs.toList with
      | [] => match evs A cs.toList with
        | some vs => K (.fn f vs) s
        | none => False
      | _ => False
    | _ => False
  | .makeSlice t x y => oneOf (ev A x) fun v => oneOf (ev A y) fun u => makeSliceL E.L s t v u K
  | .slice t x lo hi mx => oneOf (ev A x) fun v => match evo A lo with
    | some lo' => match evo A hi with
      | some hi' => match evo A mx with
        | some mx' => (match mx' with | some _ => (match hi' with | some _ => True | none => False) | none => True) ∧ sliceL E.L s t v lo' hi' mx' (K · s)
        | none => False
      | none => False
    | none => False
  | .fieldAddr t x f => oneOf (ev A x) fun p => fieldAddrL E.L t p f (K · s)
  | .field t x f => oneOf (ev A x) fun v => fieldL E.L t v f (K · s)
  | .indexAddr t x i => oneOf (ev A x) fun v => oneOf (ev A i) fun u => indexAddrL E.L s t v u (K · s)
  | .index t x i => oneOf (ev A x) fun v => oneOf (ev A i) fun u => indexL E.L t v u (K · s)
  | .extract x i => oneOf (ev A x) fun v => extractL v i (K · s)
  | .call cl => callL E A cl s K
  | _ => False

theorem wp_val {o : Oper} {a : Act} {w w' : World} {v : Value} {nx : Act → World → Prop} {Q : Exit → Act → World → Prop} (h : (execOp a.eval o).run P w = .ok (.value v) w') (hn : nx (a.put o.dst v) w') : o.wp P a w nx Q := by
  unfold Oper.wp; rw [h]; exact hn

theorem wp_skp {o : Oper} {a : Act} {w w' : World} {nx : Act → World → Prop} {Q : Exit → Act → World → Prop} (h : (execOp a.eval o).run P w = .ok .skip w') (hn : nx (a.put o.dst undef) w') : o.wp P a w nx Q := by
  unfold Oper.wp; rw [h]; exact hn

theorem evo_sound {A : Fr} {a : Act} (ha : AR P c A a) {x : Option Operand} {v : Option LV} (h : evo A x = some v) : VO P c v (x.map a.eval) := by
  cases x with
  | none => simp [evo] at h; subst h; exact .nil
  | some x =>
    simp only [evo] at h
    split at h
    · rename_i v' hv; simp at h; subst h; exact .just (ev_sound ha hv)
    · simp at h

end
end Den
/- Den, part 10: an operation does in the model what it does to logical values. -/
set_option linter.unusedSimpArgs false
set_option linter.unusedVariables false
namespace Den
open Go

section
variable {P : Program} {c : Cx}

theorem arr_of {vs : List LV} {xs : List Operand} {a : Act} {A : Fr} (ha : AR P c A a) (h : evs A xs = some vs) : ∃ us : List Value, xs.map a.eval = us ∧ us.length = vs.length ∧
    ∀ (i : Nat) v v', vs[i]? = some v → us[i]? = some v' → VR P c v v' := by
  obtain ⟨h1, h2⟩ := evs_sound ha h
  exact ⟨_, rfl, by simp [h1], h2⟩

theorem two_of {x y : LV} {us : List Value} (hl : us.length = 2) (h : ∀ (i : Nat) v v', [x, y][i]? = some v → us[i]? = some v' → VR P c v v') : ∃ x' y', us = [x', y'] ∧ VR P c x x' ∧ VR P c y y' := by
  match us, hl with
  | [x', y'], _ => exact ⟨x', y', rfl, h 0 x x' rfl rfl, h 1 y y' rfl rfl⟩
theorem one_of {x : LV} {us : List Value} (hl : us.length = 1) (h : ∀ (i : Nat) v v', [x][i]? = some v → us[i]? = some v' → VR P c v v') : ∃ x', us = [x'] ∧ VR P c x x' := by
  match us, hl with
  | [x'], _ => exact ⟨x', rfl, h 0 x x' rfl rfl⟩

theorem arr_eq {xs : Array Operand} {f : Operand → Value} {l : List Value} (h : xs.toList.map f = l) : xs.map f = l.toArray := by
  apply Array.ext'; simpa using h

theorem opL_sound {E : Env} (hL : LayOk P E.L) (hG : LayGood E.L) (hH : ∀ f args s v s', E.H f args s v s' → Holds P f args s v s') (hr : Rel P c) {A : Fr} {a : Act} (ha : AR P c A a) {o : Oper}
    {K : LV → LS → Prop} {nx : Act → World → Prop} {Q : Exit → Act → World → Prop} (h : opL E A o c.s K) (hg : Goes P c K fun v' w' => nx (a.put o.dst v') w') : o.wp P a c.w nx Q := by
  unfold opL at h
  split at h
  · -- move
    rename_i x ho
    obtain ⟨v, hv, hK⟩ := oneOf_elim h
    exact wp_val (by simp [execOp, ho]) (hg.same hK hr (ev_sound ha hv))
  · rename_i x ho
    obtain ⟨v, hv, hK⟩ := oneOf_elim h
    exact wp_val (by simp [execOp, ho]) (hg.same hK hr (ev_sound ha hv))
  · -- pick
    rename_i b x y ho
    obtain ⟨v, hv, h⟩ := oneOf_elim h
    have hb := ev_sound ha hv
    split at h
    · obtain ⟨u, hu, hK⟩ := oneOf_elim h
      generalize hbb : a.eval b = b' at hb
      cases hb
      exact wp_val (by simp [execOp, ho, hbb, asBool]) (hg.same hK hr (ev_sound ha hu))
    · obtain ⟨u, hu, hK⟩ := oneOf_elim h
      generalize hbb : a.eval b = b' at hb
      cases hb
      exact wp_val (by simp [execOp, ho, hbb, asBool]) (hg.same hK hr (ev_sound ha hu))
    · exact h.elim
  · -- alloc
    rename_i t ho
    obtain ⟨v', w', h1, h2⟩ := allocL_sound hL hr h hg
    exact wp_val (by simp [execOp, ho, h1]) h2
  · -- box
    rename_i t x ho
    obtain ⟨v, hv, hK⟩ := oneOf_elim h
    obtain ⟨v', w', h1, h2⟩ := boxL_sound (t := t) hr (ev_sound ha hv) hK hg
    exact wp_val (by simp [execOp, ho, h1]) h2
  · -- build
    rename_i t ps ho
    split at h
    case h_2 => exact h.elim
    rename_i vs hvs
    obtain ⟨h1, h2⟩ := evps_sound ha hvs
    obtain ⟨v, v', hK, hv, hrun⟩ := buildL_sound (c := c) (qs := ps.map fun (i, x) => (i, a.eval x)) hL h (by simp [h1]) (by intro i p q hp hq; exact h2 i p q hp (by simpa using hq)) c.w
    exact wp_val (by simp [execOp, ho, hrun]) (hg.same hK hr hv)
  · -- buildSlice
    rename_i t n ps ho
    split at h
    case h_2 => exact h.elim
    rename_i vs hvs
    obtain ⟨h1, h2⟩ := evps_sound ha hvs
    split at h
    · obtain ⟨v', w', hrun, hn⟩ := litL_sound (c := c) (qs := ps.map fun (i, x) => (i, a.eval x)) hL hr h (by simp [h1]) (by intro i p q hp hq; exact h2 i p q hp (by simpa using hq)) hg
      exact wp_val (by simp [execOp, ho, hrun]) hn
    · obtain ⟨v', w', hrun, hn⟩ := buildSliceL_sound (c := c) (qs := ps.map fun (i, x) => (i, a.eval x)) hL hr h (by simp [h1]) (by intro i p q hp hq; exact h2 i p q hp (by simpa using hq)) hg
      exact wp_val (by simp [execOp, ho, hrun]) hn
  · -- load
    rename_i t x ho
    obtain ⟨p, hp, h⟩ := oneOf_elim h
    obtain ⟨v, v', hK, hv, hrun⟩ := loadL_sound hL hr h (ev_sound ha hp)
    exact wp_val (by simp [execOp, ho, hrun]) (hg.same hK hr hv)
  · -- store
    rename_i t x y ho
    obtain ⟨p, hp, h⟩ := oneOf_elim h
    obtain ⟨v, hv, h⟩ := oneOf_elim h
    obtain ⟨s', w', hK, hR, hE, hrun⟩ := storeL_sound hL hr h (ev_sound ha hp) (ev_sound ha hv) (fun l hl => (hG t l hl).1)
    exact wp_skp (by simp [execOp, ho, hrun]) (hg _ _ _ _ _ hK hR hE (.tup [] #[] rfl (by simp)))
  · -- nilCheck
    rename_i x ho
    obtain ⟨p, hp, h⟩ := oneOf_elim h
    have hv := ev_sound ha hp
    split at h
    · generalize hbb : a.eval x = b' at hv
      cases hv with
      | bptr _ _ ad hn hh => exact wp_val (v := .pointer (some ad)) (by simp [execOp, ho, hbb]) (hg.same h hr (.bptr _ _ ad hn hh))
    · generalize hbb : a.eval x = b' at hv
      cases hv with
      | rptr _ _ _ _ ad hn hh => exact wp_val (v := .pointer (some ad)) (by simp [execOp, ho, hbb]) (hg.same h hr (.rptr _ _ _ _ ad hn hh))
    · generalize hbb : a.eval x = b' at hv
      cases hv with
      | lptr _ _ b o vs hz hb hc hvv => exact wp_val (v := .pointer (some ⟨b, o + _, none⟩)) (by simp [execOp, ho, hbb]) (hg.same h hr (.lptr _ _ b o vs hz hb hc hvv))
    · exact h.elim
  · -- binOp
    rename_i op t x y ty ho
    obtain ⟨v, hv, h⟩ := oneOf_elim h
    obtain ⟨u, hu, h⟩ := oneOf_elim h
    obtain ⟨r, r', hK, hrv, hrun⟩ := binL_sound (ox := x) (oy := y) hL h (ev_sound ha hv) (ev_sound ha hu) c.w
    refine wp_val (w' := c.w) (v := r') ?_ (hg.same hK hr hrv)
    simp only [execOp, ho, Sem.run_bind]
    rw [Sem.run_bind] at hrun
    rw [hrun]; rfl
  · -- unOp
    rename_i op t x ho
    obtain ⟨v, hv, h⟩ := oneOf_elim h
    obtain ⟨r, r', hK, hrv, hrun⟩ := unL_sound h (ev_sound ha hv) c.w
    exact wp_val (by simp [execOp, ho, hrun]) (hg.same hK hr hrv)
  · -- convert
    rename_i src dst x ho
    obtain ⟨v, hv, h⟩ := oneOf_elim h
    obtain ⟨r, r', hK, hrv, hrun⟩ := convL_sound hL h (ev_sound ha hv)
    exact wp_val (by simp [execOp, ho, hrun]) (hg.same hK hr hrv)
  · -- makeFunc
    rename_i fn fs cs ho
    split at h
    case h_2 => exact h.elim
    rename_i f
    split at h
    case h_2 => exact h.elim
    rename_i hfs
    split at h
    case h_2 => exact h.elim
    rename_i vs hvs
    obtain ⟨h1, h2⟩ := evs_sound ha hvs
    have hfs' : fs = #[] := by apply Array.ext'; simpa using hfs
    subst hfs'
    refine wp_val (w' := c.w) (v := .func (.func f) #[] (cs.map a.eval)) (by simp [execOp, ho, Instr.makeFunc]) (hg.same h hr (.fn f vs _ (by simp [h1]) fun i v v' hv hv' => h2 i v v' hv (by simpa using hv')))
  · -- makeSlice
    rename_i t x y ho
    obtain ⟨v, hv, h⟩ := oneOf_elim h
    obtain ⟨u, hu, h⟩ := oneOf_elim h
    obtain ⟨v', w', hrun, hn⟩ := makeSliceL_sound hL hr h (ev_sound ha hv) (ev_sound ha hu) hg
    exact wp_val (by simp [execOp, ho, hrun]) hn
  · -- slice
    rename_i t x lo hi mx ho
    obtain ⟨v, hv, h⟩ := oneOf_elim h
    split at h
    case h_2 => exact h.elim
    rename_i lo' hlo
    split at h
    case h_2 => exact h.elim
    rename_i hi' hhi
    split at h
    case h_2 => exact h.elim
    rename_i mx' hmx
    obtain ⟨hm, h⟩ := h
    obtain ⟨r, r', hK, hrv, hrun⟩ := sliceL_sound hL hr h (ev_sound ha hv) (evo_sound ha hlo) (evo_sound ha hhi) (evo_sound ha hmx) (by
      intro hms
      cases mx' with
      | none => simp at hms
      | some m => cases hi' with
        | none => exact hm.elim
        | some h => rfl) c.w
    exact wp_val (by simp [execOp, ho, hrun]) (hg.same hK hr hrv)
  · -- fieldAddr
    rename_i t x f ho
    obtain ⟨v, hv, h⟩ := oneOf_elim h
    obtain ⟨r, r', hK, hrv, hrun⟩ := fieldAddrL_sound hL h (ev_sound ha hv) c.w
    exact wp_val (by simp [execOp, ho, hrun]) (hg.same hK hr hrv)
  · -- field
    rename_i t x f ho
    obtain ⟨v, hv, h⟩ := oneOf_elim h
    obtain ⟨r, r', hK, hrv, hrun⟩ := fieldL_sound hL h (ev_sound ha hv) c.w
    exact wp_val (by simp [execOp, ho, hrun]) (hg.same hK hr hrv)
  · -- indexAddr
    rename_i t x i ho
    obtain ⟨v, hv, h⟩ := oneOf_elim h
    obtain ⟨u, hu, h⟩ := oneOf_elim h
    obtain ⟨r, r', hK, hrv, hrun⟩ := indexAddrL_sound hL h (ev_sound ha hv) (ev_sound ha hu) c.w
    exact wp_val (by simp [execOp, ho, hrun]) (hg.same hK hr hrv)
  · -- index
    rename_i t x i ho
    obtain ⟨v, hv, h⟩ := oneOf_elim h
    obtain ⟨u, hu, h⟩ := oneOf_elim h
    obtain ⟨r, r', hK, hrv, hrun⟩ := indexL_sound hL h (ev_sound ha hv) (ev_sound ha hu) c.w
    exact wp_val (by simp [execOp, ho, hrun]) (hg.same hK hr hrv)
  · -- extract
    rename_i x i ho
    obtain ⟨v, hv, h⟩ := oneOf_elim h
    obtain ⟨r, r', hK, hrv, hrun⟩ := extractL_sound h (ev_sound ha hv) c.w
    exact wp_val (by simp [execOp, ho, hrun]) (hg.same hK hr hrv)
  · -- call
    rename_i cl ho
    unfold callL at h
    split at h
    case h_2 => exact h.elim
    rename_i vs hvs
    obtain ⟨us, hus, hul, huv⟩ := arr_of ha hvs
    have harr := arr_eq (f := a.eval) hus
    split at h
    · rename_i b hb
      have bcall : ∀ {v' w'}, (builtin b cl.argTypes o.type (cl.args.map fun | .const _ => true | _ => false) us.toArray).run P c.w = .ok (.value v') w' → nx (a.put o.dst v') w' → o.wp P a c.w nx Q := by
        intro v' w' h1 h2
        refine wp_val (v := v') (w' := w') ?_ h2
        simp only [execOp, ho, Sem.run_bind, resolve, hb, Sem.run_pure, Result.andThen_ok, invoke, harr]
        exact h1
      unfold builtinL at h
      split at h
      · -- len
        split at h
        case h_2 => exact h.elim
        rename_i t ht
        split at h
        case h_2 => exact h.elim
        rename_i x
        obtain ⟨x', rfl, hx⟩ := one_of (by simpa using hul) huv
        obtain ⟨r, r', hK, hrv, hrun⟩ := lenL_sound (ty := o.type) hL h hx c.w
        have hts : cl.argTypes = #[t] := by apply Array.ext'; simpa using ht
        exact bcall (by simp [builtin, hts, hrun]) (hg.same hK hr hrv)
      · -- append
        split at h
        case h_2 => exact h.elim
        rename_i t u ht
        split at h
        case h_2 => exact h.elim
        rename_i x y
        split at h
        case h_2 => exact h.elim
        rename_i hbe
        obtain rfl := Nat.eq_of_beq_eq_true hbe
        obtain ⟨x', y', rfl, hx, hy⟩ := two_of (by simpa using hul) huv
        obtain ⟨v', w', hrun, hn⟩ := appendL_sound (ty := o.type) hL hr h hx hy (fun l hl e he le hle => ⟨(hG e le hle).2.1, (hG e le hle).2.2⟩) hg
        have hts : cl.argTypes = #[t, t] := by apply Array.ext'; simpa using ht
        exact bcall (by simp [builtin, hts, hrun]) hn
      · -- max
        split at h
        case h_2 => exact h.elim
        obtain ⟨x', y', rfl, hx, hy⟩ := two_of (by simpa using hul) huv
        cases hx; cases hy
        exact bcall (by simp [builtin, Builtin.max_, Builtin.max2]) (hg.same h hr (.int _ _))
      · split at h
        case h_2 => exact h.elim
        obtain ⟨x', y', rfl, hx, hy⟩ := two_of (by simpa using hul) huv
        cases hx; cases hy
        exact bcall (by simp [builtin, Builtin.min_, Builtin.min2]) (hg.same h hr (.int _ _))
      · split at h
        case h_2 => exact h.elim
        rename_i k re k' im
        obtain ⟨rfl, h⟩ := h
        obtain ⟨x', y', rfl, hx, hy⟩ := two_of (by simpa using hul) huv
        cases hx; cases hy
        refine bcall (v' := .complex k re im) (w' := c.w) ?_ (hg.same h hr (.cpx _ _ _))
        cases k <;> rfl
      · split at h
        case h_2 => exact h.elim
        obtain ⟨x', rfl, hx⟩ := one_of (by simpa using hul) huv
        cases hx
        exact bcall rfl (hg.same h hr (.flt _ _))
      · split at h
        case h_2 => exact h.elim
        obtain ⟨x', rfl, hx⟩ := one_of (by simpa using hul) huv
        cases hx
        exact bcall rfl (hg.same h hr (.flt _ _))
      · exact h.elim
    · rename_i f hf
      split at h
      case h_2 => exact h.elim
      rename_i g cs hg'
      obtain ⟨v, s', hEH, hK⟩ := h
      obtain ⟨⟨fn, hfn, hbody, hname⟩, hcall⟩ := hH _ _ _ _ _ hEH
      have hfv := ev_sound ha hg'
      generalize hfe : a.eval f = fv at hfv
      cases hfv with
      | fn _ _ ds hdl hdv =>
        unfold Oper.wp
        have hrun : (execOp a.eval o).run P c.w = .ok (.enter g (us.toArray ++ ds)) c.w := by
          simp only [execOp, ho, Sem.run_bind, resolve, hf, hfe, Deferred.ofValue, Sem.run_pure, Result.andThen_ok, invoke, harr]
          unfold callFunc
          rw [Sem.run_bind, run_program, Result.andThen_ok]
          simp only [hfn]
          rw [if_neg (by rw [hname]; simp), if_neg (by rw [hbody]; simp)]
          rw [Array.empty_append]; rfl
        rw [hrun]
        simp only [Oper.upon]
        refine (hcall c.X c.R c.ι c.w (us.toArray ++ ds) hr (by simp [hul, hdl]) (fun i v v' hv hv' => ?_)).mono ?_
        · rw [List.getElem?_append] at hv
          rw [Array.getElem?_append] at hv'
          simp only [List.size_toArray, hul] at hv'
          split at hv
          · rename_i hi
            rw [if_pos hi] at hv'
            exact huv i v v' hv (by simpa using hv')
          · rename_i hi
            rw [if_neg hi] at hv'
            exact hdv _ v v' hv hv'
        · rintro e w' ⟨ι', v', rfl, hR, hE, hV⟩
          exact hg _ _ _ _ _ hK hR hE hV
    · exact h.elim
  · exact h.elim

end
end Den
/- Den, part 11: what may be forgotten; regions in the order of the text; code. -/
set_option linter.unusedSimpArgs false
set_option linter.unusedVariables false
namespace Den
open Go

/-- All that a value refers to lies below a bound. -/
inductive Refs (m : Nat) : LV → Prop
  | bool (b : Bool) : Refs m (.bool b)
  | int (k : IntKind) (n : Int) : Refs m (.int k n)
  | flt (k : FloatKind) (b : Nat) : Refs m (.flt k b)
  | cpx (k : FloatKind) (a b : Nat) : Refs m (.cpx k a b)
  | str (s : List UInt8) : Refs m (.str s)
  | nilp : Refs m .nilp
  | nils : Refs m .nils
  | nilm : Refs m .nilm
  | nilf : Refs m .nilf
  | bptr (id j : Nat) (h : id < m) : Refs m (.bptr id j)
  | rptr (id i j len : Nat) (h : id < m) : Refs m (.rptr id i j len)
  | hsl (id i n : Nat) (cc : Option Nat) (h : id < m) : Refs m (.hsl id i n cc)
  | lit (es : List LV) (full : Bool) (h : ∀ e, e ∈ es → Refs m e) : Refs m (.lit es full)
  | lptr (e : LV) (j : Nat) (h : Refs m e) : Refs m (.lptr e j)
  | agg (cs : List LV) (h : ∀ e, e ∈ cs → Refs m e) : Refs m (.agg cs)
  | tup (cs : List LV) (h : ∀ e, e ∈ cs → Refs m e) : Refs m (.tup cs)
  | fn (f : Nat) (cs : List LV) (h : ∀ e, e ∈ cs → Refs m e) : Refs m (.fn f cs)
  | map (id : Nat) (h : id < m) : Refs m (.map id)

theorem Refs.cells {m : Nat} {v : LV} (h : Refs m v) : ∀ x, x ∈ v.cells → Refs m x := by
  intro x hx
  cases h with
  | agg cs h => exact h x hx
  | bool b => simp [LV.cells] at hx; subst hx; exact .bool b
  | int k n => simp [LV.cells] at hx; subst hx; exact .int k n
  | flt k b => simp [LV.cells] at hx; subst hx; exact .flt k b
  | cpx k a b => simp [LV.cells] at hx; subst hx; exact .cpx k a b
  | str s => simp [LV.cells] at hx; subst hx; exact .str s
  | nilp => simp [LV.cells] at hx; subst hx; exact .nilp
  | nils => simp [LV.cells] at hx; subst hx; exact .nils
  | nilm => simp [LV.cells] at hx; subst hx; exact .nilm
  | nilf => simp [LV.cells] at hx; subst hx; exact .nilf
  | bptr id j h => simp [LV.cells] at hx; subst hx; exact .bptr id j h
  | rptr id i j len h => simp [LV.cells] at hx; subst hx; exact .rptr id i j len h
  | hsl id i n cc h => simp [LV.cells] at hx; subst hx; exact .hsl id i n cc h
  | lit es full h => simp [LV.cells] at hx; subst hx; exact .lit es full h
  | lptr e j h => simp [LV.cells] at hx; subst hx; exact .lptr e j h
  | tup cs h => simp [LV.cells] at hx; subst hx; exact .tup cs h
  | fn f cs h => simp [LV.cells] at hx; subst hx; exact .fn f cs h
  | map id h => simp [LV.cells] at hx; subst hx; exact .map id h

def ORefs (m : Nat) : LObj → Prop
  | .box v _ => Refs m v
  | .row es _ _ => ∀ e, e ∈ es → Refs m e
  | .mp kv => ∀ p, p ∈ kv → Refs m p.1 ∧ Refs m p.2

theorem VR.shift {P : Program} {c : Cx} {s : LS} (hget : ∀ id o, s.get id = some o → c.s.get id = some o) {v : LV} {v' : Value} (h : VR P c v v') : Refs s.next v → VR P ⟨c.X, c.R, c.ι, s, c.w⟩ v v' := by
  have hz : ∀ b, ¬ c.Z b → ¬ (Cx.Z ⟨c.X, c.R, c.ι, s, c.w⟩ b) := by
    intro b hb h
    rcases h with h | ⟨id, o, h1, h2⟩
    · exact hb (.inl h)
    · exact hb (.inr ⟨id, o, hget id o h1, h2⟩)
  induction h with
  | bool b => intro _; exact .bool b
  | int k n => intro _; exact .int k n
  | flt k b => intro _; exact .flt k b
  | cpx k a b => intro _; exact .cpx k a b
  | str s => intro _; exact .str s
  | nilp => intro _; exact .nilp
  | nils => intro _; exact .nils
  | nilm => intro _; exact .nilm
  | nilf => intro _; exact .nilf
  | bptr id j a hn h =>
    intro hr; cases hr with
    | bptr _ _ hm => exact .bptr id j a ⟨hm, hn.2⟩ fun v t hg => h v t (hget _ _ hg)
  | rptr id i j len a hn h =>
    intro hr; cases hr with
    | rptr _ _ _ _ hm => exact .rptr id i j len a ⟨hm, hn.2⟩ fun es t g hg => h es t g (hget _ _ hg)
  | hsl id i n cc a cc' hn hcap hcc h =>
    intro hr; cases hr with
    | hsl _ _ _ _ hm => exact .hsl id i n cc a cc' ⟨hm, hn.2⟩ hcap hcc fun es t g hg => h es t g (hget _ _ hg)
  | lit0 a cc' full hf ha => intro _; exact .lit0 a cc' full hf ha
  | lit es full b o cc' esz vs n hlen hcap hf hz' hb hsz hc hv ih =>
    intro hr; cases hr with
    | lit _ _ hr => exact .lit es full b o cc' esz vs n hlen hcap hf (hz b hz') hb hsz hc fun i e j v he hj => ih i e j v he hj ((hr e (List.mem_of_getElem? he)).cells v (List.mem_of_getElem? hj))
  | lptr e j b o vs hz' hb hc hv ih =>
    intro hr; cases hr with
    | lptr _ _ hr => exact .lptr e j b o vs (hz b hz') hb hc fun k v hk => ih k v hk (hr.cells v (List.mem_of_getElem? hk))
  | agg cs ds hl hv ih =>
    intro hr; cases hr with
    | agg _ hr => exact .agg cs ds hl fun i v v' h1 h2 => ih i v v' h1 h2 (hr v (List.mem_of_getElem? h1))
  | tup cs ds hl hv ih =>
    intro hr; cases hr with
    | tup _ hr => exact .tup cs ds hl fun i v v' h1 h2 => ih i v v' h1 h2 (hr v (List.mem_of_getElem? h1))
  | fn f cs ds hl hv ih =>
    intro hr; cases hr with
    | fn _ _ hr => exact .fn f cs ds hl fun i v v' h1 h2 => ih i v v' h1 h2 (hr v (List.mem_of_getElem? h1))
  | map id r hn h =>
    intro hr; cases hr with
    | map _ hm => exact .map id r ⟨hm, hn.2⟩ fun kv hg => h kv (hget _ _ hg)

/-- What may be forgotten of a heap, so much being kept of the count. -/
def SubS (n0 : Nat) (s1 s2 : LS) (vs : List LV) : Prop :=
  (∀ id o, s2.get id = some o → s1.get id = some o) ∧
  (s2.next = s1.next ∨ (n0 ≤ s2.next ∧ s2.next ≤ s1.next ∧ (∀ v ∈ vs, Refs s2.next v) ∧ ∀ id o, s2.get id = some o → id < s2.next ∧ ORefs s2.next o))

theorem VR.drop {P : Program} {c : Cx} {s : LS} (hget : ∀ id o, s.get id = some o → c.s.get id = some o) (hn : s.next = c.s.next) {v : LV} {v' : Value} (h : VR P c v v') : VR P ⟨c.X, c.R, c.ι, s, c.w⟩ v v' := by
  have hz : ∀ b, ¬ c.Z b → ¬ (Cx.Z ⟨c.X, c.R, c.ι, s, c.w⟩ b) := by
    intro b hb h
    rcases h with h | ⟨id, o, h1, h2⟩
    · exact hb (.inl h)
    · exact hb (.inr ⟨id, o, hget id o h1, h2⟩)
  induction h with
  | bool b => exact .bool b
  | int k n => exact .int k n
  | flt k b => exact .flt k b
  | cpx k a b => exact .cpx k a b
  | str s => exact .str s
  | nilp => exact .nilp
  | nils => exact .nils
  | nilm => exact .nilm
  | nilf => exact .nilf
  | bptr id j a hn' h => exact .bptr id j a (by refine ⟨?_, hn'.2⟩; show id < s.next; rw [hn]; exact hn'.1) fun v t hg => h v t (hget _ _ hg)
  | rptr id i j len a hn' h => exact .rptr id i j len a (by refine ⟨?_, hn'.2⟩; show id < s.next; rw [hn]; exact hn'.1) fun es t g hg => h es t g (hget _ _ hg)
  | hsl id i n cc a cc' hn' hcap hcc h => exact .hsl id i n cc a cc' (by refine ⟨?_, hn'.2⟩; show id < s.next; rw [hn]; exact hn'.1) hcap hcc fun es t g hg => h es t g (hget _ _ hg)
  | lit0 a cc' full hf ha => exact .lit0 a cc' full hf ha
  | lit es full b o cc' esz vs n hlen hcap hf hz' hb hsz hc hv ih => exact .lit es full b o cc' esz vs n hlen hcap hf (hz b hz') hb hsz hc ih
  | lptr e j b o vs hz' hb hc hv ih => exact .lptr e j b o vs (hz b hz') hb hc ih
  | agg cs ds hl hv ih => exact .agg cs ds hl ih
  | tup cs ds hl hv ih => exact .tup cs ds hl ih
  | fn f cs ds hl hv ih => exact .fn f cs ds hl ih
  | map id r hn' h => exact .map id r (by refine ⟨?_, hn'.2⟩; show id < s.next; rw [hn]; exact hn'.1) fun kv hg => h kv (hget _ _ hg)

section
variable {P : Program} {c : Cx}

theorem Rel.shift {s : LS} (hr : Rel P c) (hget : ∀ id o, s.get id = some o → c.s.get id = some o) (hlt : ∀ id o, s.get id = some o → id < s.next) (hres : ∀ id, c.R id → id < s.next)
    (hv : ∀ id o, s.get id = some o → match o with
      | .box v _ => ∀ x ∈ v.cells, ∀ x', VR P c x x' → VR P ⟨c.X, c.R, c.ι, s, c.w⟩ x x'
      | .row es _ _ => ∀ e ∈ es, ∀ x ∈ e.cells, ∀ x', VR P c x x' → VR P ⟨c.X, c.R, c.ι, s, c.w⟩ x x'
      | .mp kv => ∀ p ∈ kv, (∀ x', VR P c p.1 x' → VR P ⟨c.X, c.R, c.ι, s, c.w⟩ p.1 x') ∧ ∀ x', VR P c p.2 x' → VR P ⟨c.X, c.R, c.ι, s, c.w⟩ p.2 x') : Rel P ⟨c.X, c.R, c.ι, s, c.w⟩ where
  lt := hlt
  res id hR := ⟨hres id hR, by
    cases h : s.get id with
    | none => rfl
    | some o => have := hget id o h; rw [(hr.res id hR).2] at this; cases this⟩
  blt id o h := hr.blt id o (hget id o h)
  inj id id' o o' h h' he := hr.inj id id' o o' (hget _ _ h) (hget _ _ h') he
  dis b hb hl := by
    obtain ⟨id, o, h1, h2⟩ := hl
    exact hr.dis b hb ⟨id, o, hget id o h1, h2⟩
  xlt := hr.xlt
  box id v t h := by
    obtain ⟨cs, h1, h2, h3⟩ := hr.box id v t (hget _ _ h)
    exact ⟨cs, h1, h2, fun j x x' hx hx' => hv id _ h x (List.mem_of_getElem? hx) x' (h3 j x x' hx hx')⟩
  row id es t g h := by
    obtain ⟨cs, h1, h2, h3, h4, h5⟩ := hr.row id es t g (hget _ _ h)
    exact ⟨cs, h1, h2, h3, h4, fun i e j x x' he hx hx' => hv id _ h e (List.mem_of_getElem? he) x (List.mem_of_getElem? hx) x' (h5 i e j x x' he hx hx')⟩
  mp id kv h := by
    obtain ⟨es, cl, h1, h2, h3⟩ := hr.mp id kv (hget _ _ h)
    exact ⟨es, cl, h1, h2, fun i p e hp he => by
      obtain ⟨h4, h5, h6⟩ := h3 i p e hp he
      have := hv id _ h p (List.mem_of_getElem? hp)
      exact ⟨this.1 _ h4, this.2 _ h5, h6⟩⟩

theorem SubS.rel {n0 : Nat} {s : LS} {vs : List LV} (hr : Rel P c) (hR : ∀ id, c.R id → id < n0) (h : SubS n0 c.s s vs) : Rel P ⟨c.X, c.R, c.ι, s, c.w⟩ ∧ (∀ v ∈ vs, ∀ v', VR P c v v' → VR P ⟨c.X, c.R, c.ι, s, c.w⟩ v v') := by
  obtain ⟨hget, hn⟩ := h
  rcases hn with hn | ⟨h0, h1, h2, h3⟩
  · refine ⟨hr.shift hget (fun id o h => by rw [hn]; exact hr.lt id o (hget id o h)) (fun id h => by rw [hn]; exact (hr.res id h).1) fun id o h => ?_, fun v _ v' hv => hv.drop hget hn⟩
    cases o with
    | box v t => exact fun x _ x' hx => hx.drop hget hn
    | row es t g => exact fun e _ x _ x' hx => hx.drop hget hn
    | mp kv => exact fun p _ => ⟨fun x' hx => hx.drop hget hn, fun x' hx => hx.drop hget hn⟩
  · refine ⟨hr.shift hget (fun id o h => (h3 id o h).1) (fun id h => Nat.lt_of_lt_of_le (hR id h) h0) fun id o h => ?_, fun v hv v' hvv => hvv.shift hget (h2 v hv)⟩
    have hO := (h3 id o h).2
    cases o with
    | box v t => exact fun x hx x' hxx => hxx.shift hget (hO.cells x hx)
    | row es t g => exact fun e he x hx x' hxx => hxx.shift hget ((hO e he).cells x hx)
    | mp kv => exact fun p hp => ⟨fun x' hx => hx.shift hget (hO p hp).1, fun x' hx => hx.shift hget (hO p hp).2⟩

theorem SubS.ext {n0 : Nat} {s : LS} {vs : List LV} {c0 : Cx} (hE : Ext c0 c) (h0 : c0.s.next ≤ n0) (h : SubS n0 c.s s vs) : Ext c0 ⟨c.X, c.R, c.ι, s, c.w⟩ where
  X := hE.X
  R := hE.R
  next := by
    rcases h.2 with h | h
    · show c0.s.next ≤ s.next; rw [h]; exact hE.next
    · show c0.s.next ≤ s.next; have := h.1; omega
  size := hE.size
  box id v' t' hi hg := hE.box id v' t' hi (h.1 _ _ hg)
  row id es' t' g' hi hg := hE.row id es' t' g' hi (h.1 _ _ hg)
  mp id kv' hi hg := hE.mp id kv' hi (h.1 _ _ hg)
  zed b hb hl := by
    obtain ⟨id, o, h1, h2⟩ := hl
    exact hE.zed b hb ⟨id, o, h.1 _ _ h1, h2⟩
  same := hE.same
  os := hE.os
  tape := hE.tape
  output := hE.output

/-- All that is known in the midst of a function. -/
structure Inv (P : Program) (c0 c : Cx) (A : Fr) (a : Act) : Prop where
  rel : Rel P c
  ar : AR P c A a
  ext : Ext c0 c
  res : ∀ id, c.R id → id < c0.s.next

def frSub (A : Fr) : List (Nat × LV) → Prop
  | [] => True
  | (k, v) :: r => A.get k = some v ∧ frSub A r

theorem frSub_look {A : Fr} : ∀ {l : List (Nat × LV)}, frSub A l → ∀ t v, look t l = some v → A.get t = some v
  | [], _, t, v, h => by simp [look] at h
  | (k, u) :: r, ⟨h1, h2⟩, t, v, h => by
    simp only [look] at h
    cases hb : Nat.beq k t with
    | true => rw [hb] at h; simp at h; subst h; rw [← Nat.eq_of_beq_eq_true hb]; exact h1
    | false => rw [hb] at h; exact frSub_look h2 t v h

theorem look_mem {t : Nat} {v : LV} : ∀ {l : List (Nat × LV)}, look t l = some v → v ∈ l.map (·.2)
  | [], h => by simp [look] at h
  | (k, u) :: r, h => by
    simp only [look] at h
    cases hb : Nat.beq k t with
    | true => rw [hb] at h; simp at h; subst h; simp
    | false => rw [hb] at h; simp; exact .inr (by simpa using look_mem h)

theorem Inv.sub {n0 : Nat} {c0 : Cx} {A : Fr} {a : Act} (h : Inv P c0 c A a) (h0 : c0.s.next ≤ n0) {l : List (Nat × LV)} {s : LS} (hf : frSub A l) (hs : SubS n0 c.s s (l.map (·.2))) : Inv P c0 ⟨c.X, c.R, c.ι, s, c.w⟩ ⟨A.n, l⟩ a := by
  obtain ⟨h1, h2⟩ := hs.rel h.rel (fun id hR => Nat.lt_of_lt_of_le (h.res id hR) h0)
  refine ⟨h1, ⟨h.ar.size, h.ar.defers, fun t v hv => ?_⟩, hs.ext h.ext h0, h.res⟩
  obtain ⟨v', h3, h4⟩ := h.ar.get t v (frSub_look hf t v hv)
  exact ⟨v', h3, h2 v (look_mem hv) v' h4⟩

end
end Den
/- Den, part 12: regions in the order of the text; code; contracts. -/
set_option linter.unusedSimpArgs false
set_option linter.unusedVariables false
namespace Den
open Go

/-- Is an operation's answer asked by a guard? -/
def isGuard (ops : List Oper) (i : Nat) : Bool := match ops with
  | [] => false
  | o :: r => match o.guard with
    | some (j, _) => bif Nat.beq j i then true else isGuard r i
    | none => isGuard r i

def splitB (g : Bool) (v : LV) (K : LV → Prop) : Prop := match g with
  | false => K v
  | true => match v with
    | .bool b => match b with
      | true => K (.bool true)
      | false => K (.bool false)
    | v => K v

theorem splitB_elim {g : Bool} {v : LV} {K : LV → Prop} (h : splitB g v K) : K v := by
  cases g with
  | false => exact h
  | true =>
    cases v with
    | bool b => cases b <;> exact h
    | _ => exact h

/-- Is an operation carried out? -/
def guardL (ops : List Oper) (A : Fr) (g : Option (Nat × Bool)) (X Y : Prop) : Prop := match g with
  | none => X
  | some (j, want) => match nth ops j with
    | some oj => match oj.dst with
      | some d => match A.get d with
        | some (.bool b) => match b with
          | true => match want with
            | true => X
            | false => Y
          | false => match want with
            | true => Y
            | false => X
        | some (.tup []) => Y
        | _ => False
      | none => False
    | none => False

def dstOk (A : Fr) (d : Option Nat) (X : Prop) : Prop := match d with
  | some d => bif Nat.blt d A.n then X else False
  | none => X

def runL (E : Env) (ops : List Oper) (i : Nat) (rest : List Oper) (A : Fr) (s : LS) (K : Fr → LS → Prop) : Prop := match rest with
  | [] => K A s
  | o :: r => dstOk A o.dst (guardL ops A o.guard
      (opL E A o s fun v s' => splitB (isGuard ops i) v fun v => runL E ops (i + 1) r (A.put o.dst v) s' K)
      (runL E ops (i + 1) r (A.put o.dst (.tup [])) s K))

/-- The end of a piece of code, told in the model. -/
def QS (P : Program) (c0 : Cx) (Q : Exit → Fr → LS → Prop) : Exit → Act → World → Prop :=
  fun e a w => ∃ c A, c.w = w ∧ Inv P c0 c A a ∧ Q e A c.s

def WpS (P : Program) (n0 : Nat) (code : Code) (Q : Exit → Fr → LS → Prop) (A : Fr) (s : LS) : Prop :=
  ∀ c0 c a, c0.s.next ≤ n0 → c.s = s → Inv P c0 c A a → Code.wp P code (QS P c0 Q) a c.w

/-- What is known of the program. -/
structure EnvOk (P : Program) (E : Env) : Prop where
  L : LayOk P E.L
  G : LayGood E.L
  H : ∀ f args s v s', E.H f args s v s' → Holds P f args s v s'
  M : P.follows .mixedOrders = true

section
variable {P : Program} {E : Env}

theorem Fr.put_n (A : Fr) (d : Option Nat) (v : LV) : (A.put d v).n = A.n := by cases d <;> rfl

theorem dstOk_elim {A : Fr} {d : Option Nat} {X : Prop} (h : dstOk A d X) : (∀ k, d = some k → k < A.n) ∧ X := by
  cases d with
  | none => exact ⟨by simp, h⟩
  | some d =>
    simp only [dstOk] at h
    cases hb : Nat.blt d A.n with
    | false => rw [hb] at h; exact h.elim
    | true =>
      rw [hb] at h
      refine ⟨fun k hk => ?_, h⟩
      injection hk with hk; subst hk
      simp [Nat.blt] at hb; omega

theorem guardL_elim {c : Cx} {ops : List Oper} {A : Fr} {a : Act} {o : Oper} {X Y : Prop} (ha : AR P c A a) (h : guardL ops A o.guard X Y) :
    (Region.wanted o (yielded ops.toArray a.tmps) = true ∧ X) ∨ (Region.wanted o (yielded ops.toArray a.tmps) = false ∧ Y) := by
  unfold guardL at h
  unfold Region.wanted
  split at h
  · rename_i hg; rw [hg]; exact .inl ⟨rfl, h⟩
  · rename_i j want hg
    rw [hg]
    split at h
    case h_2 => exact h.elim
    rename_i oj hj
    rw [nth_eq] at hj
    split at h
    case h_2 => exact h.elim
    rename_i d hd
    have hy : ∀ v, A.get d = some v → ∃ v', yielded ops.toArray a.tmps j = (match v' with | .bool b => some b | _ => none) ∧ VR P c v v' := by
      intro v hv
      obtain ⟨v', h1, h2⟩ := ha.get d v hv
      refine ⟨v', ?_, h2⟩
      unfold yielded
      simp [hj, hd, h1]
      cases v' <;> rfl
    split at h
    · rename_i b hb
      obtain ⟨v', h1, h2⟩ := hy _ hb
      cases h2
      simp only at h1
      simp only [h1]
      cases b <;> cases want <;> simp at h ⊢ <;> exact h
    · rename_i hb
      obtain ⟨v', h1, h2⟩ := hy _ hb
      cases h2
      simp only at h1
      simp only [h1]
      refine .inr ⟨?_, h⟩
      rfl
    · exact h.elim

theorem runL_sound (hE : EnvOk P E) {ops : List Oper} {c0 : Cx} {Q : Exit → Act → World → Prop} {K : Fr → LS → Prop} : ∀ (rest : List Oper) (i : Nat) (A : Fr) (c : Cx) (a : Act),
    ops.drop i = rest → Inv P c0 c A a → runL E ops i rest A c.s K → (∀ c' A' a', Inv P c0 c' A' a' → K A' c'.s → Q .normal a' c'.w) → wpOps P ops.toArray Q (List.range' i rest.length) a c.w := by
  intro rest
  induction rest with
  | nil => intro i A c a hd hi h hK; exact hK c A a hi h
  | cons o r ih =>
    intro i A c a hd hi h hK
    have hio : ops[i]? = some o := by
      have := congrArg (·[0]?) hd
      simpa using this
    have hdr : ops.drop (i + 1) = r := by
      have := congrArg List.tail hd
      simpa using this
    simp only [runL] at h
    obtain ⟨hdst, h⟩ := dstOk_elim h
    simp only [List.length_cons, List.range'_succ, wpOps]
    have : ops.toArray[i]? = some o := by simpa using hio
    rw [this]
    simp only
    rcases guardL_elim hi.ar h with ⟨hw, h⟩ | ⟨hw, h⟩
    · rw [if_pos hw]
      refine .inl (opL_sound hE.L hE.G hE.H hi.rel hi.ar h ?_)
      intro v s' ι' w' v' hk hr he hv
      have hk := splitB_elim hk
      exact ih (i + 1) _ ⟨c.X, c.R, ι', s', w'⟩ _ hdr ⟨hr, (hi.ar.mono he).put o.dst v v' hdst hv, hi.ext.trans he, hi.res⟩ hk hK
    · rw [if_neg (by rw [hw]; simp)]
      exact ih (i + 1) _ c _ hdr ⟨hi.rel, hi.ar.put o.dst _ _ hdst (.tup [] #[] rfl (by simp)), hi.ext, hi.res⟩ h hK

/-- The weakest precondition of code, in logical terms. -/
def wpL (P : Program) (E : Env) (n0 : Nat) (code : Code) (Q : Exit → Fr → LS → Prop) (A : Fr) (s : LS) : Prop := match code with
  | .skip => Q .normal A s
  | .label _ => Q .normal A s
  | .ret => Q .ret A s
  | .exit id => Q (.exit id) A s
  | .goto l => Q (.goto l) A s
  | .region id ops draw => match draw with
    | false => runL E ops.toList 0 ops.toList A s fun A s => Q .normal A s
    | true => WpS P n0 (.region id ops true) Q A s
  | .seq x y => wpL P E n0 x (fun e A s => match e with
    | .normal => wpL P E n0 y Q A s
    | .exit i => Q (.exit i) A s
    | .goto l => Q (.goto l) A s
    | .ret => Q .ret A s
    | _ => False) A s
  | .cond x y z => oneOf (ev A x) fun v => match v with
    | .bool b => match b with
      | true => wpL P E n0 y Q A s
      | false => wpL P E n0 z Q A s
    | _ => False
  | .block id x => wpL P E n0 x (fun e A s => match e with
    | .normal => Q .normal A s
    | .exit i => match Nat.beq i id with
      | true => Q .normal A s
      | false => Q (.exit i) A s
    | .goto l => Q (.goto l) A s
    | .ret => Q .ret A s
    | _ => False) A s
  | .loop x => WpS P n0 (.loop x) Q A s
  | .scope x => WpS P n0 (.scope x) Q A s
  | _ => False

theorem wp_loop_ix {α : Type} {c : Code} {Q : Exit → Act → World → Prop} {a : Act} {w : World} (J : α → Act → World → Prop) (μ : α → Nat) (x0 : α) (h₀ : J x0 a w)
    (round : ∀ x a w, J x a w → c.wp P (Exit.then (fun a' w' => ∃ y, J y a' w' ∧ μ y < μ x) Q) a w) : (Code.loop c).wp P Q a w := by
  intro b k cs
  have key : ∀ n x a w, μ x = n → J x a w →
      ∃ e a' w', Q e a' w' ∧ Arrives P (lone (b.at a (.code c :: .inLoop c :: k)) cs w) b k cs e a' w' := by
    intro n
    induction n using Nat.strongRecOn with
    | _ n ih =>
      intro x a w hn hI
      obtain ⟨e, a₁, w₁, hq, harr⟩ := round x a w hI b (.inLoop c :: k) cs
      cases e with
      | normal =>
        obtain ⟨y, hI₁, hlt⟩ := hq
        obtain ⟨e₂, a₂, w₂, hq₂, harr₂⟩ := ih (μ y) (hn ▸ hlt) y a₁ w₁ rfl hI₁
        exact ⟨e₂, a₂, w₂, hq₂, .of_steps (Steps.trans harr (.one step_inLoop)) harr₂⟩
      | exit id => exact ⟨_, a₁, w₁, hq, .pass (x := .inLoop c) rfl (fun _ _ => .inl (by simp)) harr⟩
      | goto l => exact ⟨_, a₁, w₁, hq, .pass (x := .inLoop c) rfl (fun _ _ => .inl (by simp)) harr⟩
      | ret => exact ⟨_, a₁, w₁, hq, .pass (x := .inLoop c) rfl (fun _ _ => .inl (by simp)) harr⟩
      | panic ch => exact ⟨_, a₁, w₁, hq, .pass (x := .inLoop c) rfl (fun _ _ => .inl (by simp)) harr⟩
      | outgrown => exact ⟨_, a₁, w₁, hq, .pass (x := .inLoop c) rfl (fun _ _ => .inl (by simp)) harr⟩
  obtain ⟨e, a', w', hq, harr⟩ := key _ x0 a w rfl h₀
  exact ⟨e, a', w', hq, .of_steps (.one step_loop) harr⟩

theorem wpL_sound (hE : EnvOk P E) {n0 : Nat} : ∀ (code : Code) (Q : Exit → Fr → LS → Prop) (A : Fr) (s : LS), wpL P E n0 code Q A s → WpS P n0 code Q A s := by
  intro code
  induction code with
  | skip => intro Q A s h c0 c a h0 hs hi; subst hs; exact wp_skip ⟨c, A, rfl, hi, h⟩
  | label l => intro Q A s h c0 c a h0 hs hi; subst hs; exact wp_label ⟨c, A, rfl, hi, h⟩
  | ret => intro Q A s h c0 c a h0 hs hi; subst hs; exact wp_ret ⟨c, A, rfl, hi, h⟩
  | exit id => intro Q A s h c0 c a h0 hs hi; subst hs; exact wp_exit ⟨c, A, rfl, hi, h⟩
  | goto l => intro Q A s h c0 c a h0 hs hi; subst hs; exact wp_goto ⟨c, A, rfl, hi, h⟩
  | region id ops draw =>
    intro Q A s h c0 c a h0 hs hi
    cases draw with
    | false =>
      subst hs
      have := runL_sound hE (ops := ops.toList) (Q := QS P c0 Q) ops.toList 0 A c a rfl hi h (fun c' A' a' hi' hq => ⟨c', A', rfl, hi', hq⟩)
      refine wp_region ?_
      rw [List.range_eq_range']
      simpa using this
    | true => exact h c0 c a h0 hs hi
  | seq x y ihx ihy =>
    intro Q A s h c0 c a h0 hs hi
    refine wp_seq (wp_mono (ihx _ A s h c0 c a h0 hs hi) ?_)
    rintro e a' w' ⟨c', A', rfl, hi', hq⟩
    cases e with
    | normal => exact ihy Q A' c'.s hq c0 c' a' h0 rfl hi'
    | exit id => exact ⟨c', A', rfl, hi', hq⟩
    | goto l => exact ⟨c', A', rfl, hi', hq⟩
    | ret => exact ⟨c', A', rfl, hi', hq⟩
    | panic ch => exact hq.elim
    | outgrown => exact hq.elim
  | cond x y z ihy ihz =>
    intro Q A s h c0 c a h0 hs hi
    simp only [wpL] at h
    obtain ⟨v, hv, h⟩ := oneOf_elim h
    have hvv := ev_sound hi.ar hv
    split at h
    case h_2 => exact h.elim
    rename_i b
    generalize hb : a.eval x = b' at hvv
    cases hvv
    refine wp_cond hb ?_
    cases b with
    | true => exact ihy Q A s h c0 c a h0 hs hi
    | false => exact ihz Q A s h c0 c a h0 hs hi
  | block id x ih =>
    intro Q A s h c0 c a h0 hs hi
    refine wp_block (wp_mono (ih _ A s h c0 c a h0 hs hi) ?_)
    rintro e a' w' ⟨c', A', rfl, hi', hq⟩
    cases e with
    | normal => exact ⟨c', A', rfl, hi', hq⟩
    | exit i =>
      simp only at hq
      simp only [Exit.inBlock]
      split at hq
      · rename_i hb
        rw [if_pos (Nat.eq_of_beq_eq_true hb)]
        exact ⟨c', A', rfl, hi', hq⟩
      · rename_i hb
        rw [if_neg (fun e => by rw [e] at hb; simp at hb)]
        exact ⟨c', A', rfl, hi', hq⟩
    | goto l => exact ⟨c', A', rfl, hi', hq⟩
    | ret => exact ⟨c', A', rfl, hi', hq⟩
    | panic ch => exact hq.elim
    | outgrown => exact hq.elim
  | loop x ih => intro Q A s h; exact h
  | rangeFunc f ps x y ihx ihy => intro Q A s h; exact h.elim
  | scope x ih => intro Q A s h; exact h
  | refuse w => intro Q A s h; exact h.elim

/-! ### Contracts -/
def resK (L : TypeId → Option Lay) (A : Fr) (s : LS) : List ResultVar → (List LV → Prop) → Prop
  | [], K => K []
  | .tmp t :: r, K => oneOf (A.get t) fun v => resK L A s r fun vs => K (v :: vs)
  | .cell x t :: r, K => oneOf (A.get x) fun p => loadL L s t p fun v => resK L A s r fun vs => K (v :: vs)

def retK (K : LV → Prop) (vs : List LV) : Prop := match vs with
  | [v] => K v
  | vs => K (.tup vs)

theorem resK_sound (hL : LayOk P E.L) {c : Cx} {A : Fr} {a : Act} (hr : Rel P c) (ha : AR P c A a) : ∀ (rs : List ResultVar) {K : List LV → Prop}, resK E.L A c.s rs K →
    ∃ vs vs', K vs ∧ vs'.length = vs.length ∧ (∀ (i : Nat) v v', vs[i]? = some v → vs'[i]? = some v' → VR P c v v') ∧
      (rs.mapM fun | .tmp t => pure (a.tmps.getD t undef) | .cell x t => do loadVar t (← asAddr (a.tmps.getD x undef)) : Sem (List Value)).run P c.w = .ok vs' c.w := by
  intro rs
  induction rs with
  | nil => intro K h; exact ⟨[], [], h, rfl, by simp, rfl⟩
  | cons r rs ih =>
    intro K h
    cases r with
    | tmp t =>
      obtain ⟨v, hv, h⟩ := oneOf_elim h
      obtain ⟨vs, vs', hK, hl, hvv, hrun⟩ := ih h
      obtain ⟨v', h1, h2⟩ := ha.get t v hv
      refine ⟨v :: vs, v' :: vs', hK, by simp [hl], fun i u u' hu hu' => ?_, ?_⟩
      · cases i with
        | zero => simp at hu hu'; subst hu; subst hu'; exact h2
        | succ i => simp at hu hu'; exact hvv i u u' hu hu'
      · have hd : a.tmps.getD t undef = v' := by simp [h1]
        rw [List.mapM_cons]
        simp only [Sem.run_bind, Sem.run_pure, Result.andThen_ok, hd, hrun]
    | cell x t =>
      obtain ⟨p, hp, h⟩ := oneOf_elim h
      obtain ⟨p', h1, h2⟩ := ha.get x p hp
      obtain ⟨v, v', h, hv, hload⟩ := loadL_sound hL hr h h2
      obtain ⟨vs, vs', hK, hl, hvv, hrun⟩ := ih h
      refine ⟨v :: vs, v' :: vs', hK, by simp [hl], fun i u u' hu hu' => ?_, ?_⟩
      · cases i with
        | zero => simp at hu hu'; subst hu; subst hu'; exact hv
        | succ i => simp at hu hu'; exact hvv i u u' hu hu'
      · have hd : a.tmps.getD x undef = p' := by simp [h1]
        rw [List.mapM_cons]
        have hpa : ∃ ad, p' = .pointer (some ad) := by
          cases h2 <;> first | exact ⟨_, rfl⟩ | (simp [Instr.loadAt, Instr.sureAddr] at hload)
        obtain ⟨ad, rfl⟩ := hpa
        have hload' : (loadVar t ad).run P c.w = .ok v' c.w := by simpa [Instr.loadAt, Instr.sureAddr] using hload
        have hA : (asAddr (a.tmps.getD x undef)).run P c.w = .ok ad c.w := by rw [hd]; rfl
        simp only [Sem.run_bind, Sem.run_pure, Result.andThen_ok, hA, hload', hrun]

def endL (E : Env) (n0 : Nat) (rs : List ResultVar) (v : LV) (s2 : LS) (e : Exit) (A : Fr) (s : LS) : Prop := match e with
  | .normal => resK E.L A s rs (retK fun u => u = v ∧ SubS n0 s s2 [v])
  | .ret => resK E.L A s rs (retK fun u => u = v ∧ SubS n0 s s2 [v])
  | _ => False

def slots (i : Nat) : List LV → List (Nat × LV)
  | [] => []
  | v :: r => (i, v) :: slots (i + 1) r

theorem look_slots : ∀ (vs : List LV) (i t : Nat) (v : LV), look t (slots i vs) = some v → i ≤ t ∧ vs[t - i]? = some v := by
  intro vs
  induction vs with
  | nil => intro i t v h; simp [slots, look] at h
  | cons u r ih =>
    intro i t v h
    simp only [slots, look] at h
    cases hb : Nat.beq i t with
    | true =>
      have := Nat.eq_of_beq_eq_true hb
      rw [hb] at h; simp at h; subst h; subst this
      simp
    | false =>
      rw [hb] at h
      obtain ⟨h1, h2⟩ := ih (i + 1) t v h
      refine ⟨by omega, ?_⟩
      have : t - i = (t - (i + 1)) + 1 := by omega
      rw [this]; simpa using h2

/-- The end of a function's body. -/
def endZ (E : Env) (rs : List ResultVar) (Z : LS → LV → Prop) (e : Exit) (A : Fr) (s : LS) : Prop := match e with
  | .normal => resK E.L A s rs (retK (Z s))
  | .ret => resK E.L A s rs (retK (Z s))
  | _ => False

theorem Holds.of_wpZ {f : Nat} {fn : Func} {code : Code} {args : List LV} {s s2 : LS} {v : LV} (hE : EnvOk P E) (hf : P.funcs[f]? = some fn) (hb : fn.body = some code)
    (hname : (fn.name == "runtime.NumGoroutine") = false) (hn : args.length ≤ fn.ntmps) (Z : LS → LV → Prop)
    (hZ : ∀ (c0 c : Cx) u u', c0.s = s → Rel P c → Ext c0 c → (∀ id, c.R id → id < c0.s.next) → VR P c u u' → Z c.s u → ∃ ι', Rel P ⟨c.X, c.R, ι', s2, c.w⟩ ∧ Ext c0 ⟨c.X, c.R, ι', s2, c.w⟩ ∧ VR P ⟨c.X, c.R, ι', s2, c.w⟩ v u')
    (h : WpS P s.next code (endZ E fn.results.toList Z) ⟨fn.ntmps, slots 0 args⟩ s) : Holds P f args s v s2 := by
  refine ⟨⟨fn, hf, by rw [hb]; rfl, hname⟩, ?_⟩
  intro X R ι w args' hr hl hv
  refine calls_of_wp hf hb ?_
  have hinv : Inv P ⟨X, R, ι, s, w⟩ ⟨X, R, ι, s, w⟩ ⟨fn.ntmps, slots 0 args⟩ { tmps := args' ++ Array.replicate (fn.ntmps - args'.size) undef, defers := [] } := by
    refine ⟨hr, ⟨by simp; omega, rfl, fun t u hu => ?_⟩, Ext.refl _, fun id hR => (hr.res id hR).1⟩
    obtain ⟨_, h2⟩ := look_slots args 0 t u hu
    simp at h2
    have ht : t < args.length := (List.getElem?_eq_some_iff.1 h2).1
    refine ⟨args'[t]'(by omega), ?_, hv t u _ h2 (by simp)⟩
    rw [Array.getElem?_append, if_pos (by omega)]
    simp
  refine wp_mono (h ⟨X, R, ι, s, w⟩ ⟨X, R, ι, s, w⟩ _ (Nat.le_refl _) rfl hinv) ?_
  have fin : ∀ (c : Cx) (A : Fr) (a : Act), Inv P ⟨X, R, ι, s, w⟩ c A a → resK E.L A c.s fn.results.toList (retK (Z c.s)) →
      a.defers = [] ∧ ∃ v', (results fn a.tmps).run P c.w = .ok v' c.w ∧ ∃ ι' v'', Ending.returned v' = .returned v'' ∧ Rel P ⟨X, R, ι', s2, c.w⟩ ∧ Ext ⟨X, R, ι, s, w⟩ ⟨X, R, ι', s2, c.w⟩ ∧ VR P ⟨X, R, ι', s2, c.w⟩ v v'' := by
    intro c A a hi hres
    refine ⟨hi.ar.defers, ?_⟩
    obtain ⟨vs, vs', hK, hlen, hvv, hrun⟩ := resK_sound hE.L hi.rel hi.ar fn.results.toList hres
    have hX : c.X = X := hi.ext.X
    have hRR : c.R = R := hi.ext.R
    have close : ∀ u u', VR P c u u' → Z c.s u → ∃ ι' v'', Ending.returned u' = .returned v'' ∧ Rel P ⟨X, R, ι', s2, c.w⟩ ∧ Ext ⟨X, R, ι, s, w⟩ ⟨X, R, ι', s2, c.w⟩ ∧ VR P ⟨X, R, ι', s2, c.w⟩ v v'' := by
      intro u u' hu hz
      obtain ⟨ι', h1, h2, h3⟩ := hZ ⟨X, R, ι, s, w⟩ c u u' rfl hi.rel hi.ext hi.res hu hz
      rw [hX, hRR] at h1 h2 h3
      exact ⟨ι', u', rfl, h1, h2, h3⟩
    have hmap : (fn.results.mapM fun | .tmp t => pure (a.tmps.getD t undef) | .cell x t => do loadVar t (← asAddr (a.tmps.getD x undef)) : Sem (Array Value)).run P c.w = .ok vs'.toArray c.w := by
      rw [Array.mapM_eq_mapM_toList]
      simp only [Sem.run_map, hrun, Result.andThen_ok]
    have hres2 : (results fn a.tmps).run P c.w = (Result.ok vs'.toArray c.w).andThen (fun vs w' => (pure (if h : vs.size = 1 then vs[0] else .tuple vs) : Sem Value).run P w') := by
      unfold results
      rw [Sem.run_bind, ← hmap]
      congr 2
    rw [hres2, Result.andThen_ok]
    match vs, vs', hlen, hvv, hK with
    | [u], [u'], _, hvv, hK =>
      refine ⟨u', ?_, close u u' (hvv 0 u u' rfl rfl) hK⟩
      simp
    | [], [], _, hvv, hK =>
      exact ⟨.tuple #[], by simp, close (.tup []) _ (.tup [] #[] rfl (by simp)) hK⟩
    | u1 :: u2 :: us, u1' :: u2' :: us', hlen, hvv, hK =>
      exact ⟨.tuple (u1' :: u2' :: us').toArray, by simp, close (.tup (u1 :: u2 :: us)) _ (.tup _ _ (by simpa using hlen) fun i x x' hx hx' => hvv i x x' hx (by simpa using hx')) hK⟩
  rintro e a w' ⟨c, A, rfl, hi, hq⟩
  cases e with
  | normal => exact fin c A a hi hq
  | ret => exact fin c A a hi hq
  | exit id => exact hq.elim
  | goto l => exact hq.elim
  | panic ch => exact hq.elim
  | outgrown => exact hq.elim

theorem Holds.of_wpS {f : Nat} {fn : Func} {code : Code} {args : List LV} {s s2 : LS} {v : LV} (hE : EnvOk P E) (hf : P.funcs[f]? = some fn) (hb : fn.body = some code)
    (hname : (fn.name == "runtime.NumGoroutine") = false) (hn : args.length ≤ fn.ntmps)
    (h : WpS P s.next code (endL E s.next fn.results.toList v s2) ⟨fn.ntmps, slots 0 args⟩ s) : Holds P f args s v s2 := by
  refine Holds.of_wpZ hE hf hb hname hn (fun s' u => u = v ∧ SubS s.next s' s2 [v]) ?_ (by
    intro c0 c a h0 hs hi
    refine wp_mono (h c0 c a h0 hs hi) ?_
    rintro e a' w' ⟨c', A', rfl, hi', hq⟩
    refine ⟨c', A', rfl, hi', ?_⟩
    cases e <;> exact hq)
  rintro c0 c u u' hs hr hx hres hu ⟨rfl, hsub⟩
  obtain ⟨h1, h2⟩ := hsub.rel hr (by rw [← hs]; exact hres)
  exact ⟨c.ι, h1, hsub.ext hx (by rw [hs]; exact Nat.le_refl _), h2 u (by simp) u' hu⟩

theorem Holds.of_wpL {f : Nat} {fn : Func} {code : Code} {args : List LV} {s s2 : LS} {v : LV} (hE : EnvOk P E) (hf : P.funcs[f]? = some fn) (hb : fn.body = some code)
    (hname : (fn.name == "runtime.NumGoroutine") = false) (hn : args.length ≤ fn.ntmps)
    (h : wpL P E s.next code (endL E s.next fn.results.toList v s2) ⟨fn.ntmps, slots 0 args⟩ s) : Holds P f args s v s2 :=
  Holds.of_wpS hE hf hb hname hn (wpL_sound hE _ _ _ _ h)

/-- A contract that needs nothing of the heap holds over any. -/
theorem Holds.lift {f : Nat} {args : List LV} {v : LV} (h : Holds P f args LS.empty v LS.empty) (ha : ∀ u ∈ args, Refs 0 u) (hv : Refs 0 v) (s : LS) : Holds P f args s v s := by
  refine ⟨h.1, ?_⟩
  intro X R ι w args' hr hl hvv
  have hz : ∀ b, (Cx.Z ⟨fun b => X b ∨ Cx.Lb ⟨X, R, ι, s, w⟩ b, fun _ => False, ι, LS.empty, w⟩ b) ↔ Cx.Z ⟨X, R, ι, s, w⟩ b := by
    intro b
    constructor
    · rintro (h | ⟨id, o, h, _⟩)
      · exact h
      · simp [LS.empty] at h
    · intro h; exact .inl h
  have hr0 : Rel P ⟨fun b => X b ∨ Cx.Lb ⟨X, R, ι, s, w⟩ b, fun _ => False, ι, LS.empty, w⟩ := by
    refine ⟨?_, ?_, ?_, ?_, ?_, ?_, ?_, ?_, ?_⟩
    · intro id o h; simp [LS.empty] at h
    · intro id h; exact h.elim
    · intro id o h; simp [LS.empty] at h
    · intro id id' o o' h; simp [LS.empty] at h
    · rintro b _ ⟨id, o, h, _⟩; simp [LS.empty] at h
    · rintro b (h | ⟨id, o, h1, h2⟩)
      · exact hr.xlt b h
      · have := hr.blt id o h1; show b < w.heap.size; rw [← h2]; exact this
    · intro id v t h; simp [LS.empty] at h
    · intro id es t g h; simp [LS.empty] at h
    · intro id kv h; simp [LS.empty] at h
  have conv : ∀ (ι1 ι2 : Nat → Nat × Nat) (w1 : World) (s1 s2 : LS) (X1 X2 R1 R2 : Nat → Prop), (∀ b, ¬ Cx.Z ⟨X1, R1, ι1, s1, w1⟩ b → ¬ Cx.Z ⟨X2, R2, ι2, s2, w1⟩ b) → ∀ u u', Refs 0 u → VR P ⟨X1, R1, ι1, s1, w1⟩ u u' → VR P ⟨X2, R2, ι2, s2, w1⟩ u u' := by
    intro ι1 ι2 w1 s1 s2 X1 X2 R1 R2 hzz u u' hu h
    induction h with
    | bool b => exact .bool b
    | int k n => exact .int k n
    | flt k b => exact .flt k b
    | cpx k a b => exact .cpx k a b
    | str s => exact .str s
    | nilp => exact .nilp
    | nils => exact .nils
    | nilm => exact .nilm
    | nilf => exact .nilf
    | bptr id j a hn h => cases hu with | bptr _ _ h => omega
    | rptr id i j len a hn h => cases hu with | rptr _ _ _ _ h => omega
    | hsl id i n cc a cc' hn hcap hcc h => cases hu with | hsl _ _ _ _ h => omega
    | lit0 a cc' full hf ha => exact .lit0 a cc' full hf ha
    | lit es full b o cc' esz vs n hlen hcap hf hz' hb hsz hc hv ih =>
      cases hu with
      | lit _ _ hu => exact .lit es full b o cc' esz vs n hlen hcap hf (hzz b hz') hb hsz hc fun i e j v he hj => ih i e j v he hj ((hu e (List.mem_of_getElem? he)).cells v (List.mem_of_getElem? hj))
    | lptr e j b o vs hz' hb hc hv ih =>
      cases hu with
      | lptr _ _ hu => exact .lptr e j b o vs (hzz b hz') hb hc fun k v hk => ih k v hk (hu.cells v (List.mem_of_getElem? hk))
    | agg cs ds hl hv ih => cases hu with | agg _ hu => exact .agg cs ds hl fun i v v' h1 h2 => ih i v v' h1 h2 (hu v (List.mem_of_getElem? h1))
    | tup cs ds hl hv ih => cases hu with | tup _ hu => exact .tup cs ds hl fun i v v' h1 h2 => ih i v v' h1 h2 (hu v (List.mem_of_getElem? h1))
    | fn f cs ds hl hv ih => cases hu with | fn _ _ hu => exact .fn f cs ds hl fun i v v' h1 h2 => ih i v v' h1 h2 (hu v (List.mem_of_getElem? h1))
    | map id r hn h => cases hu with | map _ h => omega
  refine (h.2 (fun b => X b ∨ Cx.Lb ⟨X, R, ι, s, w⟩ b) (fun _ => False) ι w args' hr0 hl (fun i u u' hu hu' => conv ι ι w s LS.empty X _ R _ (fun b hb hx => hb ((hz b).1 hx)) u u' (ha u (List.mem_of_getElem? hu)) (hvv i u u' hu hu'))).mono ?_
  rintro e w' ⟨ι', v', rfl, hR, hE, hV⟩
  have hsame : ∀ b, b < w.heap.size → w'.heap[b]? = w.heap[b]? := fun b hb => hE.same b hb (by rintro ⟨id, o, h, _⟩; simp [LS.empty] at h)
  have hEx : Ext ⟨X, R, ι, s, w⟩ ⟨X, R, ι, s, w'⟩ := by
    refine ⟨rfl, rfl, Nat.le_refl _, hE.size, fun id v t _ h => ⟨rfl, v, h⟩, fun id es t g _ h => ⟨es, g, h, Nat.le_refl _, .inl rfl, fun h => h⟩, fun id kv _ h => ⟨rfl, kv, h⟩, fun b _ h => h, fun b hb _ => hsame b hb, hE.os, hE.tape, hE.output⟩
  have hRel : Rel P ⟨X, R, ι, s, w'⟩ := by
    refine ⟨hr.lt, hr.res, fun id o h => Nat.lt_of_lt_of_le (hr.blt id o h) hE.size, hr.inj, hr.dis, fun b h => Nat.lt_of_lt_of_le (hr.xlt b h) hE.size, ?_, ?_, ?_⟩
    · intro id v t h
      obtain ⟨cs, h1, h2, h3⟩ := hr.box id v t h
      exact ⟨cs, by show w'.heap[_]? = _; rw [hsame _ (hr.blt id _ h)]; exact h1, h2, fun j x x' hx hx' => (h3 j x x' hx hx').mono hEx⟩
    · intro id es t g h
      obtain ⟨cs, h1, h2, h3, h4, h5⟩ := hr.row id es t g h
      exact ⟨cs, by show w'.heap[_]? = _; rw [hsame _ (hr.blt id _ h)]; exact h1, h2, h3, h4, fun i e j x x' he hx hx' => (h5 i e j x x' he hx hx').mono hEx⟩
    · intro id kv h
      obtain ⟨es, cl, h1, h2, h3⟩ := hr.mp id kv h
      exact ⟨es, cl, by show w'.heap[_]? = _; rw [hsame _ (hr.blt id _ h)]; exact h1, h2, fun i p e hp he => by
        obtain ⟨h4, h5, h6⟩ := h3 i p e hp he
        exact ⟨h4.mono hEx, h5.mono hEx, h6⟩⟩
  refine ⟨ι, v', rfl, hRel, hEx, conv ι' ι w' LS.empty s _ X _ R (fun b hb hx => hb ?_) v v' hv hV⟩
  rcases hx with hx | hx
  · exact .inl (.inl hx)
  · exact .inl (.inr hx)

end
end Den
