/- The layer 'Den': logical values and heaps told of the model's; what an operation, a piece of code, a call does to them; the layer carried out. No condition. -/
import Derived.Test.YthjcagfiknkmkaaDena
import Derived.Orders
set_option linter.unusedSimpArgs false
set_option linter.unusedVariables false
/- Den, part 13: an operation has one outcome. -/
set_option linter.unusedSimpArgs false
set_option linter.unusedVariables false
namespace Den
open Go

/-- What holds of an outcome holds of one outcome. -/
def Det1 (X : (LV → Prop) → Prop) : Prop := ∀ K, X K → ∃ v, X (fun u => u = v) ∧ K v
def Det2 (X : (LV → LS → Prop) → Prop) : Prop := ∀ K, X K → ∃ v s, X (fun u s' => u = v ∧ s' = s) ∧ K v s
def DetS (X : (LS → Prop) → Prop) : Prop := ∀ K, X K → ∃ s, X (fun s' => s' = s) ∧ K s

theorem det_oneOf {o : Option LV} {F : LV → (LV → Prop) → Prop} (h : ∀ v, o = some v → Det1 (F v)) : Det1 fun K => oneOf o fun v => F v K := by
  intro K hk
  cases o with
  | none => exact hk.elim
  | some v => exact h v rfl K hk

theorem det_one {o : Option LV} : Det1 fun K => oneOf o K := by
  intro K hk
  cases o with
  | none => exact hk.elim
  | some v => exact ⟨v, rfl, hk⟩

theorem det_intBin (op : BinOp) (k : IntKind) (a b : Int) : Det1 (intBin op k a b) := by
  intro K h
  cases op <;> first | exact h.elim | exact ⟨_, rfl, h⟩ | exact ⟨_, ⟨h.1, rfl⟩, h.2⟩

theorem det_strBin (op : BinOp) (a b : List UInt8) : Det1 (strBin op a b) := by
  intro K h
  cases op <;> first | exact h.elim | exact ⟨_, rfl, h⟩ | exact ⟨_, ⟨h.1, rfl⟩, h.2⟩

theorem det_shiftL (op : BinOp) (k : IntKind) (a b : Int) : Det1 (shiftL op k a b) := by
  intro K h
  cases op <;> first | exact h.elim | exact ⟨_, ⟨h.1, rfl⟩, h.2⟩

theorem det_nilEq (L : TypeId → Option Lay) (op : BinOp) (t : TypeId) (b : Bool) : Det1 (nilEq L op t b) := by
  intro K h
  unfold nilEq at h ⊢
  cases hl : L t with
  | none => rw [hl] at h; exact h.elim
  | some l =>
    rw [hl] at h
    simp only at h ⊢
    cases hk : l.k <;> rw [hk] at h <;> simp only at h ⊢ <;> try exact h.elim
    cases op <;> first | exact h.elim | exact ⟨_, rfl, h⟩

theorem det_arrEq (L : TypeId → Option Lay) (op : BinOp) (t : TypeId) (xs ys : List LV) : Det1 (arrEq L op t xs ys) := by
  intro K h
  unfold arrEq at h ⊢
  cases hl : L t with
  | none => rw [hl] at h; exact h.elim
  | some l =>
    rw [hl] at h
    simp only at h ⊢
    cases hk : l.k <;> rw [hk] at h <;> simp only at h ⊢ <;> try exact h.elim
    rename_i n e
    cases h2 : L e with
    | none => rw [h2] at h; exact h.elim
    | some le =>
      rw [h2] at h
      simp only at h ⊢
      cases hk2 : le.k <;> rw [hk2] at h <;> simp only at h ⊢ <;> try exact h.elim
      obtain ⟨h0, as, bs, h3, h4, h5, h6, h⟩ := h
      cases op <;> first | exact h.elim | exact ⟨_, ⟨h0, as, bs, h3, h4, h5, h6, rfl⟩, h⟩

theorem det_binL (L : TypeId → Option Lay) (op : BinOp) (t : TypeId) (x y : LV) : Det1 (binL L op t x y) := by
  intro K h
  unfold binL at h ⊢
  cases x <;> cases y <;> simp only at h ⊢ <;> try exact h.elim
  · -- bool
    cases hl : L t with
    | none => rw [hl] at h; exact h.elim
    | some l =>
      rw [hl] at h
      simp only at h ⊢
      cases hk : l.k <;> rw [hk] at h <;> simp only at h ⊢ <;> try exact h.elim
      cases op <;> first | exact h.elim | exact ⟨_, rfl, h⟩
  · -- int
    rename_i k a k' b
    cases op with
    | shl => exact det_shiftL _ _ _ _ K h
    | shr => exact det_shiftL _ _ _ _ K h
    | _ =>
      simp only at h ⊢
      cases hd : decide (k = k') with
      | false => rw [hd] at h; exact h.elim
      | true => rw [hd] at h; exact det_intBin _ _ _ _ K h
  · obtain ⟨h1, v, lv, h2, h3, h4⟩ := h
    exact ⟨lv, ⟨h1, v, lv, h2, h3, rfl⟩, h4⟩
  · obtain ⟨h1, v, lv, h2, h3, h4⟩ := h
    exact ⟨lv, ⟨h1, v, lv, h2, h3, rfl⟩, h4⟩
  · exact det_strBin _ _ _ K h
  · exact det_nilEq _ _ _ _ K h
  · exact det_nilEq _ _ _ _ K h
  · rename_i l f
    cases l with
    | nil => exact h.elim
    | cons x r => exact det_nilEq _ _ _ _ K h
  · exact det_arrEq _ _ _ _ _ K h

theorem det_unL (op : UnOp) (x : LV) : Det1 (unL op x) := by
  intro K h
  unfold unL at h ⊢
  cases op <;> cases x <;> first | exact h.elim | exact ⟨_, rfl, h⟩

theorem map_byte_inj : ∀ {a b : List UInt8}, a.map (fun b => LV.int .u8 (b.toNat : Int)) = b.map (fun b => LV.int .u8 (b.toNat : Int)) → a = b
  | [], [], _ => rfl
  | [], _ :: _, h => by cases h
  | _ :: _, [], h => by cases h
  | x :: r, y :: r', h => by
    simp only [List.map_cons, List.cons.injEq, LV.int.injEq, true_and] at h
    rw [map_byte_inj h.2, UInt8.toNat_inj.1 (Int.ofNat.inj h.1)]

theorem det_bytesL (L : TypeId → Option Lay) (src : TypeId) (es : List LV) : Det1 (bytesL L src es) := by
  intro K h
  unfold bytesL at h ⊢
  cases h1 : L src with
  | none => rw [h1] at h; exact h.elim
  | some ls =>
    rw [h1] at h
    simp only at h ⊢
    cases hk : ls.k <;> rw [hk] at h <;> simp only at h ⊢ <;> try exact h.elim
    rename_i e
    cases h2 : L e with
    | none => rw [h2] at h; exact h.elim
    | some le =>
      rw [h2] at h
      simp only at h ⊢
      cases hk2 : le.k <;> rw [hk2] at h <;> simp only at h ⊢ <;> try exact h.elim
      rename_i k
      cases k <;> simp only at h ⊢ <;> try exact h.elim
      obtain ⟨bs, h3, h4⟩ := h
      exact ⟨_, ⟨bs, h3, rfl⟩, h4⟩

theorem det_convL (L : TypeId → Option Lay) (src dst : TypeId) (x : LV) : Det1 (convL L src dst x) := by
  intro K h
  unfold convL at h ⊢
  cases h1 : L src with
  | none => rw [h1] at h; exact h.elim
  | some ls =>
    cases h2 : L dst with
    | none => rw [h1, h2] at h; exact h.elim
    | some ld =>
      rw [h1, h2] at h
      simp only at h ⊢
      cases hk : ld.k <;> rw [hk] at h <;> cases x <;> simp only at h ⊢ <;> first
        | exact h.elim
        | exact ⟨_, rfl, h⟩
        | exact det_bytesL _ _ _ K h
        | (obtain ⟨n, h3, h4, h5, h6⟩ := h; exact ⟨_, ⟨n, h3, h4, h5, rfl⟩, h6⟩)

theorem det_loadL (L : TypeId → Option Lay) (s : LS) (t : TypeId) (p : LV) : Det1 (loadL L s t p) := by
  intro K h
  unfold loadL at h ⊢
  cases p <;> simp only at h ⊢ <;> try exact h.elim
  · rename_i id j
    cases hg : s.get id with
    | none => rw [hg] at h; exact h.elim
    | some o =>
      rw [hg] at h
      cases o <;> simp only at h ⊢ <;> first | exact h.elim | exact det_one K h
  · rename_i id i j len
    cases hg : s.get id with
    | none => rw [hg] at h; exact h.elim
    | some o =>
      rw [hg] at h
      cases o <;> simp only at h ⊢ <;> try exact h.elim
      obtain ⟨h1, v, h2, h3⟩ := h
      obtain ⟨u, h4, h5⟩ := det_one K h3
      exact ⟨u, ⟨h1, v, h2, h4⟩, h5⟩
  · exact det_one K h

theorem det_fieldAddrL (L : TypeId → Option Lay) (t : TypeId) (p : LV) (f : Nat) : Det1 (fieldAddrL L t p f) := by
  intro K h
  unfold fieldAddrL at h ⊢
  cases h1 : L t with
  | none => rw [h1] at h; exact h.elim
  | some l =>
    rw [h1] at h
    simp only at h ⊢
    cases hk : l.k <;> rw [hk] at h <;> simp only at h ⊢ <;> try exact h.elim
    rename_i fs
    cases h2 : nth fs f with
    | none => rw [h2] at h; exact h.elim
    | some q =>
      rw [h2] at h
      simp only at h ⊢
      cases h3 : L q.2 with
      | none => rw [h3] at h; exact h.elim
      | some lf =>
        rw [h3] at h
        simp only at h ⊢
        cases h4 : lf.size with
        | zero => rw [h4] at h; exact h.elim
        | succ n =>
          rw [h4] at h
          cases p <;> simp only at h ⊢ <;> first | exact h.elim | exact ⟨_, rfl, h⟩

theorem det_indexAddrL (L : TypeId → Option Lay) (s : LS) (t : TypeId) (x i : LV) : Det1 (indexAddrL L s t x i) := by
  intro K h
  unfold indexAddrL at h ⊢
  cases i <;> simp only at h ⊢ <;> try exact h.elim
  cases h1 : L t with
  | none => rw [h1] at h; exact h.elim
  | some l =>
    rw [h1] at h
    simp only at h ⊢
    cases hk : l.k <;> rw [hk] at h <;> simp only at h ⊢ <;> try exact h.elim
    · rename_i e
      cases h2 : L e with
      | none => rw [h2] at h; exact h.elim
      | some le =>
        rw [h2] at h
        cases x <;> simp only at h ⊢ <;> try exact h.elim
        · rename_i id i0 m cc
          cases hg : s.get id with
          | none => rw [hg] at h; exact h.elim
          | some o =>
            rw [hg] at h
            cases o <;> simp only at h ⊢ <;> try exact h.elim
            rename_i es bt g
            cases hb : Nat.beq bt e with
            | false => rw [hb] at h; exact h.elim
            | true => rw [hb] at h; exact ⟨_, ⟨h.1, h.2.1, rfl⟩, h.2.2⟩
        · obtain ⟨h3, v, h4, h5, h6⟩ := h
          exact ⟨_, ⟨h3, v, h4, h5, rfl⟩, h6⟩
    · rename_i len e
      cases h2 : L e with
      | none => rw [h2] at h; exact h.elim
      | some le =>
        rw [h2] at h
        cases x <;> simp only at h ⊢ <;> first | exact h.elim | exact ⟨_, ⟨h.1, h.2.1, rfl⟩, h.2.2⟩

theorem det_buildL (L : TypeId → Option Lay) (t : TypeId) (ps : List (Nat × LV)) : Det1 (buildL L t ps) := by
  intro K h
  unfold buildL at h ⊢
  cases h1 : L t with
  | none => rw [h1] at h; exact h.elim
  | some l =>
    rw [h1] at h
    simp only at h ⊢
    cases hk : l.k <;> rw [hk] at h <;> simp only at h ⊢ <;> try exact h.elim
    · rename_i n e
      cases h2 : L e with
      | none => rw [h2] at h; exact h.elim
      | some le =>
        rw [h2] at h
        simp only at h ⊢
        cases h3 : fillL (fun i => some (i * le.size, le.size)) l.zero.cells ps with
        | none => rw [h3] at h; exact h.elim
        | some r => rw [h3] at h; exact ⟨_, rfl, h⟩
    · rename_i fs
      cases h2 : placesL L fs with
      | none => rw [h2] at h; exact h.elim
      | some q =>
        rw [h2] at h
        simp only at h ⊢
        cases h3 : fillL (nth q) l.zero.cells ps with
        | none => rw [h3] at h; exact h.elim
        | some r => rw [h3] at h; exact ⟨_, rfl, h⟩

theorem det_lenL (L : TypeId → Option Lay) (t : TypeId) (x : LV) : Det1 (lenL L t x) := by
  intro K h
  unfold lenL at h ⊢
  cases h1 : L t with
  | none => rw [h1] at h; exact h.elim
  | some l =>
    rw [h1] at h
    simp only at h ⊢
    cases hk : l.k <;> rw [hk] at h <;> cases x <;> simp only at h ⊢ <;> first | exact h.elim | exact ⟨_, rfl, h⟩

theorem det_indexL (L : TypeId → Option Lay) (t : TypeId) (x i : LV) : Det1 (indexL L t x i) := by
  intro K h
  unfold indexL at h ⊢
  cases i <;> simp only at h ⊢ <;> try exact h.elim
  cases h1 : L t with
  | none => rw [h1] at h; exact h.elim
  | some l =>
    rw [h1] at h
    simp only at h ⊢
    cases hk : l.k <;> rw [hk] at h <;> cases x <;> simp only at h ⊢ <;> try exact h.elim
    · obtain ⟨h3, b, h4, h5⟩ := h
      exact ⟨_, ⟨h3, b, h4, rfl⟩, h5⟩
    · rename_i len e cs
      cases h2 : L e with
      | none => rw [h2] at h; exact h.elim
      | some le =>
        rw [h2] at h
        obtain ⟨h3, h4, v, h5, h6⟩ := h
        exact ⟨_, ⟨h3, h4, v, h5, rfl⟩, h6⟩

theorem det_fieldL (L : TypeId → Option Lay) (t : TypeId) (x : LV) (f : Nat) : Det1 (fieldL L t x f) := by
  intro K h
  unfold fieldL at h ⊢
  cases h1 : L t with
  | none => rw [h1] at h; exact h.elim
  | some l =>
    rw [h1] at h
    simp only at h ⊢
    cases hk : l.k <;> rw [hk] at h <;> simp only at h ⊢ <;> try exact h.elim
    rename_i fs
    cases h2 : nth fs f with
    | none => rw [h2] at h; exact h.elim
    | some q =>
      rw [h2] at h
      cases x <;> simp only at h ⊢ <;> first | exact h.elim | exact det_one K h

theorem det_extractL (x : LV) (i : Nat) : Det1 (extractL x i) := by
  intro K h
  unfold extractL at h ⊢
  cases x <;> simp only at h ⊢ <;> first | exact h.elim | exact det_one K h

theorem det_sliceL (L : TypeId → Option Lay) (s : LS) (t : TypeId) (x : LV) (lo hi mx : Option LV) : Det1 (sliceL L s t x lo hi mx) := by
  intro K h
  unfold sliceL at h ⊢
  cases h1 : L t with
  | none => rw [h1] at h; exact h.elim
  | some l =>
    rw [h1] at h
    simp only at h ⊢
    cases hk : l.k <;> rw [hk] at h <;> simp only at h ⊢ <;> try exact h.elim
    · cases x <;> simp only at h ⊢ <;> try exact h.elim
      cases mx <;> simp only at h ⊢ <;> try exact h.elim
      rename_i b
      cases h2 : optI lo 0 with
      | none => rw [h2] at h; exact h.elim
      | some l0 =>
        cases h3 : optI hi b.length with
        | none => rw [h2, h3] at h; exact h.elim
        | some u0 =>
          rw [h2, h3] at h
          obtain ⟨h4, h5, h6, h7⟩ := h
          exact ⟨_, ⟨h4, h5, h6, rfl⟩, h7⟩
    · rename_i e
      cases h2 : L e with
      | none => rw [h2] at h; exact h.elim
      | some le =>
        rw [h2] at h
        simp only at h ⊢
        cases x <;> simp only at h ⊢ <;> try exact h.elim
        · obtain ⟨hm, h⟩ := h
          cases h2 : optI lo 0 with
          | none => rw [h2] at h; exact h.elim
          | some l0 =>
            cases h3 : optI hi 0 with
            | none => rw [h2, h3] at h; exact h.elim
            | some u0 =>
              rw [h2, h3] at h
              obtain ⟨h4, h5, h6⟩ := h
              exact ⟨_, ⟨hm, h4, h5, rfl⟩, h6⟩
        · rename_i id i0 n cc
          cases hg : s.get id with
          | none => rw [hg] at h; exact h.elim
          | some o =>
            rw [hg] at h
            cases o <;> simp only at h ⊢ <;> try exact h.elim
            cases h2 : optI lo 0 with
            | none => rw [h2] at h; exact h.elim
            | some l0 =>
              cases h3 : optI hi n with
              | none => rw [h2, h3] at h; exact h.elim
              | some u0 =>
                rw [h2, h3] at h
                cases mx with
                | none =>
                  simp only at h ⊢
                  obtain ⟨h4, h5, h6, h7, h8, h9, h10⟩ := h
                  exact ⟨_, ⟨h4, h5, h6, h7, h8, h9, rfl⟩, h10⟩
                | some m =>
                  simp only at h ⊢
                  obtain ⟨h3, h4, h5, h6, h7, h8, h9, h10⟩ := h
                  exact ⟨_, ⟨h3, h4, h5, h6, h7, h8, h9, rfl⟩, h10⟩
        · rename_i es full
          cases h2 : optI lo 0 with
          | none => rw [h2] at h; exact h.elim
          | some l0 =>
            cases h3 : optI hi es.length with
            | none => rw [h2, h3] at h; exact h.elim
            | some u0 =>
              rw [h2, h3] at h
              cases mx with
              | none =>
                simp only at h ⊢
                obtain ⟨h5, h6, h7, h8, h10⟩ := h
                exact ⟨_, ⟨h5, h6, h7, h8, rfl⟩, h10⟩
              | some m =>
                simp only at h ⊢
                obtain ⟨h3, h5, h6, h7, h8, h10⟩ := h
                exact ⟨_, ⟨h3, h5, h6, h7, h8, rfl⟩, h10⟩

end Den
/- Den, part 14: an operation has one outcome, the rest. -/
set_option linter.unusedSimpArgs false
set_option linter.unusedVariables false
namespace Den
open Go

theorem Det1.two {X : (LV → Prop) → Prop} (h : Det1 X) (s : LS) : Det2 fun K => X fun v => K v s := by
  intro K hk
  obtain ⟨v, h1, h2⟩ := h _ hk
  refine ⟨v, s, ?_, h2⟩
  have : (fun u => u = v ∧ s = s) = (fun u => u = v) := by funext u; simp
  show X fun u => u = v ∧ s = s
  rw [this]; exact h1

theorem det_storeL (L : TypeId → Option Lay) (s : LS) (t : TypeId) (p v : LV) : DetS (storeL L s t p v) := by
  intro K h
  unfold storeL at h ⊢
  cases h1 : L t with
  | none => rw [h1] at h; exact h.elim
  | some l =>
    rw [h1] at h
    simp only at h ⊢
    cases hc : (Nat.beq v.cells.length l.size && v.cells.all LV.one) with
    | false => rw [hc] at h; exact h.elim
    | true =>
      rw [hc] at h
      simp only [cond_true] at h ⊢
      cases p <;> simp only at h ⊢ <;> try exact h.elim
      · rename_i id j
        cases hg : s.get id with
        | none => rw [hg] at h; exact h.elim
        | some o =>
          rw [hg] at h
          cases o <;> simp only at h ⊢ <;> try exact h.elim
          rename_i v0 bt
          cases hb : Nat.ble (j + l.size) v0.cells.length with
          | false => rw [hb] at h; exact h.elim
          | true =>
            rw [hb] at h
            simp only [cond_true] at h ⊢
            cases hr : reL v0 (setL v0.cells j v.cells) with
            | none => rw [hr] at h; exact h.elim
            | some v1 => rw [hr] at h; exact ⟨_, rfl, h⟩
      · rename_i id i j len
        cases hg : s.get id with
        | none => rw [hg] at h; exact h.elim
        | some o =>
          rw [hg] at h
          cases o <;> simp only at h ⊢ <;> try exact h.elim
          obtain ⟨h2, e, h3, h4, e1, h5, h6⟩ := h
          exact ⟨_, ⟨h2, e, h3, h4, e1, h5, rfl⟩, h6⟩

theorem det_allocL (L : TypeId → Option Lay) (s : LS) (t : TypeId) : Det2 (allocL L s t) := by
  intro K h
  unfold allocL at h ⊢
  cases h1 : L t with
  | none => rw [h1] at h; exact h.elim
  | some l => rw [h1] at h; exact ⟨_, _, ⟨rfl, rfl⟩, h⟩

theorem det_buildSliceL (L : TypeId → Option Lay) (s : LS) (t : TypeId) (n : Nat) (ps : List (Nat × LV)) : Det2 (buildSliceL L s t n ps) := by
  intro K h
  unfold buildSliceL at h ⊢
  cases h1 : L t with
  | none => rw [h1] at h; exact h.elim
  | some l =>
    rw [h1] at h
    simp only at h ⊢
    cases hk : l.k <;> rw [hk] at h <;> simp only at h ⊢ <;> try exact h.elim
    rename_i e
    cases h2 : L e with
    | none => rw [h2] at h; exact h.elim
    | some le =>
      rw [h2] at h
      simp only at h ⊢
      cases hb : (Nat.beq le.zero.cells.length le.size && Nat.ble (n * le.size) 16777216 && Nat.blt 0 le.size) with
      | false => rw [hb] at h; exact h.elim
      | true =>
        rw [hb] at h
        simp only [cond_true] at h ⊢
        cases h3 : setAll (List.replicate n le.zero) le.size ps with
        | none => rw [h3] at h; exact h.elim
        | some es => rw [h3] at h; exact ⟨_, _, ⟨rfl, rfl⟩, h⟩

theorem det_litL (L : TypeId → Option Lay) (t : TypeId) (n : Nat) (ps : List (Nat × LV)) : Det1 (litL L t n ps) := by
  intro K h
  unfold litL at h ⊢
  cases h1 : L t with
  | none => rw [h1] at h; exact h.elim
  | some l =>
    rw [h1] at h
    simp only at h ⊢
    cases hk : l.k <;> rw [hk] at h <;> simp only at h ⊢ <;> try exact h.elim
    rename_i e
    cases h2 : L e with
    | none => rw [h2] at h; exact h.elim
    | some le =>
      rw [h2] at h
      simp only at h ⊢
      cases hb : (Nat.beq le.zero.cells.length le.size && Nat.ble (n * le.size) 16777216 && Nat.blt 0 le.size) with
      | false => rw [hb] at h; exact h.elim
      | true =>
        rw [hb] at h
        simp only [cond_true] at h ⊢
        cases h3 : setAll (List.replicate n le.zero) le.size ps with
        | none => rw [h3] at h; exact h.elim
        | some es => rw [h3] at h; exact ⟨_, rfl, h⟩

theorem det_makeSliceL (L : TypeId → Option Lay) (s : LS) (t : TypeId) (x y : LV) : Det2 (makeSliceL L s t x y) := by
  intro K h
  unfold makeSliceL at h ⊢
  cases x <;> cases y <;> simp only at h ⊢ <;> try exact h.elim
  cases h1 : L t with
  | none => rw [h1] at h; exact h.elim
  | some l =>
    rw [h1] at h
    simp only at h ⊢
    cases hk : l.k <;> rw [hk] at h <;> simp only at h ⊢ <;> try exact h.elim
    rename_i e
    cases h2 : L e with
    | none => rw [h2] at h; exact h.elim
    | some le =>
      rw [h2] at h
      simp only at h ⊢
      cases hb : (Nat.beq le.zero.cells.length le.size) with
      | false => rw [hb] at h; exact h.elim
      | true =>
        rw [hb] at h
        obtain ⟨h3, h4, h5, h6, h7⟩ := h
        exact ⟨_, _, ⟨h3, h4, h5, h6, rfl, rfl⟩, h7⟩

theorem det_srcL {s : LS} {e : TypeId} {x : LV} {F : List LV → (LV → LS → Prop) → Prop} (h : ∀ l, Det2 (F l)) : Det2 fun K => srcL s e x fun l => F l K := by
  intro K hk
  unfold srcL at hk ⊢
  cases x <;> simp only at hk ⊢ <;> try exact hk.elim
  · exact h _ K hk
  · rename_i id i m cc
    cases hg : s.get id with
    | none =>
      rw [hg] at hk
      obtain ⟨v, s', h1, h2⟩ := h _ K hk.2
      exact ⟨v, s', ⟨hk.1, h1⟩, h2⟩
    | some o =>
      rw [hg] at hk
      cases o <;> simp only at hk ⊢ <;> try exact hk.elim
      rename_i es bt g
      cases hb : Nat.beq bt e with
      | false => rw [hb] at hk; exact hk.elim
      | true =>
        rw [hb] at hk
        obtain ⟨v, s', h1, h2⟩ := h _ K hk.2
        exact ⟨v, s', ⟨hk.1, h1⟩, h2⟩
  · exact h _ K hk

theorem det_appendL (L : TypeId → Option Lay) (s : LS) (t : TypeId) (x y : LV) : Det2 (appendL L s t x y) := by
  unfold appendL
  cases h1 : L t with
  | none => exact fun K h => h.elim
  | some l =>
    simp only
    cases hk : l.k <;> simp only <;> try exact fun K h => h.elim
    rename_i e
    cases h2 : L e with
    | none => exact fun K h => h.elim
    | some le =>
      simp only
      refine det_srcL fun news => ?_
      cases news with
      | nil => intro K h; cases x <;> simp only at h ⊢ <;> first | exact h.elim | exact ⟨_, _, ⟨rfl, rfl⟩, h⟩
      | cons v r =>
        intro K h
        obtain ⟨hf, h⟩ := h
        cases x <;> simp only at h ⊢ <;> try exact h.elim
        · exact ⟨_, _, ⟨hf, h.1, rfl, rfl⟩, h.2⟩
        · rename_i id i n cc
          cases hg : s.get id with
          | none => rw [hg] at h; exact h.elim
          | some o =>
            rw [hg] at h
            cases o <;> simp only at h ⊢ <;> try exact h.elim
            rename_i es bt g
            cases hb : (Nat.beq bt e && !g) with
            | false => rw [hb] at h; exact h.elim
            | true =>
              rw [hb] at h
              simp only at h ⊢
              cases cc with
              | some k =>
                simp only at h ⊢
                cases hl : Nat.ble (n + (v :: r).length) k with
                | true =>
                  rw [hl] at h
                  cases i with
                  | succ i => exact h.elim
                  | zero =>
                    simp only at h ⊢
                    cases hl2 : Nat.ble (n + (v :: r).length) es.length with
                    | true => rw [hl2] at h; exact ⟨_, _, ⟨hf, rfl, rfl⟩, h⟩
                    | false => rw [hl2] at h; exact h.elim
                | false => rw [hl] at h; exact ⟨_, _, ⟨hf, h.1, rfl, rfl⟩, h.2⟩
              | none =>
                simp only at h ⊢
                cases i with
                | succ i => exact h.elim
                | zero =>
                  simp only at h ⊢
                  cases hl : Nat.ble (n + (v :: r).length) es.length with
                  | true => rw [hl] at h; exact ⟨_, _, ⟨hf, rfl, rfl⟩, h⟩
                  | false => rw [hl] at h; exact ⟨_, _, ⟨hf, h.1, rfl, rfl⟩, h.2⟩
        · exact ⟨_, _, ⟨hf, h.1, h.2.1, h.2.2.1, rfl, rfl⟩, h.2.2.2⟩

theorem det_builtinL (E : Env) (b : Builtin) (ts : List TypeId) (vs : List LV) (s : LS) : Det2 (builtinL E b ts vs s) := by
  intro K h
  unfold builtinL at h ⊢
  cases b <;> simp only at h ⊢ <;> try exact h.elim
  case len =>
    match ts, vs with
    | [t], [x] => exact (det_lenL E.L t x).two s K h
    | [], _ => exact h.elim
    | [t], [] => exact h.elim
    | [t], _ :: _ :: _ => exact h.elim
    | _ :: _ :: _, _ => exact h.elim
  case append =>
    match ts, vs with
    | [t, u], [x, y] =>
      simp only at h ⊢
      cases hb : Nat.beq t u with
      | false => rw [hb] at h; exact h.elim
      | true => rw [hb] at h; exact det_appendL E.L s t x y K h
    | [], _ => exact h.elim
    | [_], _ => exact h.elim
    | _ :: _ :: _ :: _, _ => exact h.elim
    | [t, u], [] => exact h.elim
    | [t, u], [_] => exact h.elim
    | [t, u], _ :: _ :: _ :: _ => exact h.elim
  all_goals
    split at h
    · first
      | exact ⟨_, _, ⟨rfl, rfl⟩, h⟩
      | exact ⟨_, _, ⟨h.1, rfl, rfl⟩, h.2⟩
    · exact h.elim

theorem det_callL (E : Env) (A : Fr) (c : Call) (s : LS) : Det2 (callL E A c s) := by
  intro K h
  unfold callL at h ⊢
  cases hv : evs A c.args.toList with
  | none => rw [hv] at h; exact h.elim
  | some vs =>
    rw [hv] at h
    simp only at h ⊢
    cases hc : c.callee with
    | builtin b => rw [hc] at h; exact det_builtinL E b _ vs s K h
    | invoke r m => rw [hc] at h; exact h.elim
    | value f =>
      rw [hc] at h
      simp only at h ⊢
      cases hf : ev A f with
      | none => rw [hf] at h; exact h.elim
      | some u =>
        rw [hf] at h
        cases u <;> simp only at h ⊢ <;> try exact h.elim
        obtain ⟨v, s', h1, h2⟩ := h
        exact ⟨v, s', ⟨v, s', h1, rfl, rfl⟩, h2⟩

theorem det2_oneOf {o : Option LV} {F : LV → (LV → LS → Prop) → Prop} (h : ∀ v, Det2 (F v)) : Det2 fun K => oneOf o fun v => F v K := by
  intro K hk
  cases o with
  | none => exact hk.elim
  | some v => exact h v K hk

theorem det2_ret (v : LV) (s : LS) : Det2 fun K => K v s := fun K h => ⟨v, s, ⟨rfl, rfl⟩, h⟩
theorem det2_false : Det2 fun _ => False := fun _ h => h.elim

theorem det_opL (E : Env) (A : Fr) (o : Oper) (s : LS) : Det2 (opL E A o s) := by
  obtain ⟨dst, op, type, pos, after, guard⟩ := o
  unfold opL
  cases op <;> simp only <;> try exact det2_false
  case move x => exact det2_oneOf fun v => det2_ret v s
  case assign x => exact det2_oneOf fun v => det2_ret v s
  case pick b x y =>
    refine det2_oneOf fun v => ?_
    cases v <;> try exact det2_false
    rename_i b
    cases b
    · exact det2_oneOf fun v => det2_ret v s
    · exact det2_oneOf fun v => det2_ret v s
  case alloc t => exact det_allocL E.L s t
  case box t x => exact det2_oneOf fun v => det2_ret _ _
  case build t ps =>
    cases evps A ps.toList with
    | none => exact det2_false
    | some vs => exact (det_buildL E.L t vs).two s
  case buildSlice t n ps =>
    cases evps A ps.toList with
    | none => exact det2_false
    | some vs =>
      cases E.B with
      | true => exact (det_litL E.L t n vs).two s
      | false => exact det_buildSliceL E.L s t n vs
  case load t x => exact det2_oneOf fun p => (det_loadL E.L s t p).two s
  case store t x y =>
    refine det2_oneOf fun p => det2_oneOf fun v => ?_
    intro K hk
    obtain ⟨s', h1, h2⟩ := det_storeL E.L s t p v _ hk
    refine ⟨.tup [], s', ?_, h2⟩
    have : (fun (x : LS) => LV.tup [] = LV.tup [] ∧ x = s') = (fun x => x = s') := by funext u; simp
    show storeL E.L s t p v (fun x => LV.tup [] = LV.tup [] ∧ x = s')
    rw [this]; exact h1
  case nilCheck x =>
    refine det2_oneOf fun p => ?_
    cases p <;> first | exact det2_false | exact det2_ret _ s
  case binOp op t x y _ => exact det2_oneOf fun v => det2_oneOf fun u => (det_binL E.L op t v u).two s
  case unOp op _ x => exact det2_oneOf fun v => (det_unL op v).two s
  case convert src dst x => exact det2_oneOf fun v => (det_convL E.L src dst v).two s
  case makeFunc fn fs cs =>
    cases fn <;> try exact det2_false
    cases fs.toList with
    | cons _ _ => exact det2_false
    | nil =>
      simp only
      cases evs A cs.toList with
      | none => exact det2_false
      | some vs => exact det2_ret _ s
  case makeSlice t x y => exact det2_oneOf fun v => det2_oneOf fun u => det_makeSliceL E.L s t v u
  case slice t x lo hi mx =>
    refine det2_oneOf fun v => ?_
    cases evo A lo with
    | none => exact det2_false
    | some lo' =>
      cases evo A hi with
      | none => exact det2_false
      | some hi' =>
        cases evo A mx with
        | none => exact det2_false
        | some mx' =>
          simp only
          intro K hk
          obtain ⟨u, s', h1, h2⟩ := (det_sliceL E.L s t v lo' hi' mx').two s K hk.2
          exact ⟨u, s', ⟨hk.1, h1⟩, h2⟩
  case fieldAddr t x f => exact det2_oneOf fun p => (det_fieldAddrL E.L t p f).two s
  case field t x f => exact det2_oneOf fun v => (det_fieldL E.L t v f).two s
  case indexAddr t x i => exact det2_oneOf fun v => det2_oneOf fun u => (det_indexAddrL E.L s t v u).two s
  case index t x i => exact det2_oneOf fun v => det2_oneOf fun u => (det_indexL E.L t v u).two s
  case extract x i => exact det2_oneOf fun v => (det_extractL v i).two s
  case call c => exact det_callL E A c s

end Den
/- Den, part 15: a region whose order is drawn: the run in the order of the text, and what it says. -/
set_option linter.unusedSimpArgs false
set_option linter.unusedVariables false
namespace Den
open Go

/-! ### An operation asks its operands alone -/
theorem evs_congr {A B : Fr} : ∀ (xs : List Operand), (∀ x ∈ xs, ev A x = ev B x) → evs A xs = evs B xs
  | [], _ => rfl
  | x :: r, h => by simp only [evs, h x (by simp), evs_congr r fun y hy => h y (by simp [hy])]

theorem evps_congr {A B : Fr} : ∀ (xs : List (Nat × Operand)), (∀ x ∈ xs, ev A x.2 = ev B x.2) → evps A xs = evps B xs
  | [], _ => rfl
  | (i, x) :: r, h => by
    have h1 : ev A x = ev B x := h (i, x) (by simp)
    simp only [evps, h1, evps_congr r fun y hy => h y (by simp [hy])]

theorem evo_congr {A B : Fr} : ∀ (x : Option Operand), (∀ y, x = some y → ev A y = ev B y) → evo A x = evo B x
  | none, _ => rfl
  | some x, h => by simp only [evo, h x rfl]

theorem opL_congr {E : Env} {A B : Fr} {o : Oper} {s : LS} {K : LV → LS → Prop} (h : ∀ x ∈ o.op.operands, ev A x = ev B x) : opL E A o s K = opL E B o s K := by
  obtain ⟨dst, op, type, pos, after, guard⟩ := o
  unfold opL
  cases op <;> simp only [Op.operands] at h ⊢
  case move x => rw [h x (by simp)]
  case assign x => rw [h x (by simp)]
  case pick b x y => rw [h b (by simp), h x (by simp), h y (by simp)]
  case box t x => rw [h x (by simp)]
  case build t ps => rw [evps_congr ps.toList fun x hx => h x.2 (by simp; exact ⟨x.1, by simpa using hx⟩)]
  case buildSlice t n ps => rw [evps_congr ps.toList fun x hx => h x.2 (by simp; exact ⟨x.1, by simpa using hx⟩)]
  case load t x => rw [h x (by simp)]
  case store t x y => rw [h x (by simp), h y (by simp)]
  case nilCheck x => rw [h x (by simp)]
  case binOp op t x y _ => rw [h x (by simp), h y (by simp)]
  case unOp op _ x => rw [h x (by simp)]
  case convert src dst x => rw [h x (by simp)]
  case makeFunc fn fs cs => rw [evs_congr cs.toList fun x hx => h x (by simp; exact .inr (by simpa using hx))]
  case makeSlice t x y => rw [h x (by simp), h y (by simp)]
  case slice t x lo hi mx =>
    rw [h x (by simp), evo_congr lo fun y hy => h y (by simp [hy]), evo_congr hi fun y hy => h y (by simp [hy]), evo_congr mx fun y hy => h y (by simp [hy])]
  case fieldAddr t x f => rw [h x (by simp)]
  case field t x f => rw [h x (by simp)]
  case indexAddr t x i => rw [h x (by simp), h i (by simp)]
  case index t x i => rw [h x (by simp), h i (by simp)]
  case extract x i => rw [h x (by simp)]
  case call c =>
    unfold callL
    rw [evs_congr c.args.toList fun x hx => h x (by simp [Call.operands]; exact .inr (by simpa using hx))]
    cases hc : c.callee with
    | builtin b => rfl
    | invoke r m => rfl
    | value f => simp only; rw [h f (by simp [Call.operands, hc])]

/-! ### Operations that ask nothing of the heap, and that leave it -/
def still (E : Env) (o : Oper) : Bool := match o.op with
  | .move _ | .assign _ | .pick _ _ _ | .build _ _ | .nilCheck _ | .binOp _ _ _ _ _ | .unOp _ _ _ | .convert _ _ _ | .makeFunc _ _ _ | .fieldAddr _ _ _ | .field _ _ _ | .index _ _ _ | .extract _ _ => true
  | .buildSlice _ _ _ => E.B
  | .call c => match c.callee with
    | .builtin .len | .builtin .max | .builtin .min | .builtin .complex | .builtin .real | .builtin .imag => true
    | _ => false
  | _ => false

/-- An operation that only looks. -/
def looker (o : Oper) : Bool := match o.op with
  | .load _ _ | .indexAddr _ _ _ | .slice _ _ _ _ _ => true
  | _ => false

/-- What an operation yields that asks nothing of the heap. -/
def Flat1 (X : LS → (LV → LS → Prop) → Prop) : Prop := ∃ Y : (LV → Prop) → Prop, Det1 Y ∧ ∀ s K, X s K = Y (K · s)

theorem flat_false : Flat1 fun _ _ => False := ⟨fun _ => False, fun _ h => h.elim, fun _ _ => rfl⟩
theorem flat_ret (v : LV) : Flat1 fun s K => K v s := ⟨fun K => K v, fun K h => ⟨v, rfl, h⟩, fun _ _ => rfl⟩
theorem flat_det {Y : (LV → Prop) → Prop} (h : Det1 Y) : Flat1 fun s K => Y (K · s) := ⟨Y, h, fun _ _ => rfl⟩
theorem flat_oneOf {o : Option LV} {F : LV → LS → (LV → LS → Prop) → Prop} (h : ∀ v, Flat1 (F v)) : Flat1 fun s K => oneOf o fun v => F v s K := by
  cases o with
  | none => exact flat_false
  | some v => exact h v

theorem opL_still {E : Env} {A : Fr} {o : Oper} (h : still E o = true) : Flat1 (opL E A o) := by
  obtain ⟨dst, op, type, pos, after, guard⟩ := o
  unfold still at h
  unfold opL
  cases op <;> simp only at h ⊢ <;> try exact absurd h Bool.false_ne_true
  case move x => exact flat_oneOf fun v => flat_ret v
  case assign x => exact flat_oneOf fun v => flat_ret v
  case pick b x y =>
    refine flat_oneOf fun v => ?_
    cases v <;> try exact flat_false
    rename_i b
    cases b
    · exact flat_oneOf fun v => flat_ret v
    · exact flat_oneOf fun v => flat_ret v
  case build t ps =>
    cases evps A ps.toList with
    | none => exact flat_false
    | some vs => exact flat_det (det_buildL E.L t vs)
  case buildSlice t n ps =>
    cases evps A ps.toList with
    | none => exact flat_false
    | some vs => rw [h]; exact flat_det (det_litL E.L t n vs)
  case nilCheck x =>
    refine flat_oneOf fun p => ?_
    cases p <;> first | exact flat_false | exact flat_ret _
  case binOp op t x y _ => exact flat_oneOf fun v => flat_oneOf fun u => flat_det (det_binL E.L op t v u)
  case unOp op _ x => exact flat_oneOf fun v => flat_det (det_unL op v)
  case convert src dst x => exact flat_oneOf fun v => flat_det (det_convL E.L src dst v)
  case makeFunc fn fs cs =>
    cases fn <;> try exact flat_false
    cases fs.toList with
    | cons _ _ => exact flat_false
    | nil =>
      simp only
      cases evs A cs.toList with
      | none => exact flat_false
      | some vs => exact flat_ret _
  case fieldAddr t x f => exact flat_oneOf fun p => flat_det (det_fieldAddrL E.L t p f)
  case field t x f => exact flat_oneOf fun v => flat_det (det_fieldL E.L t v f)
  case index t x i => exact flat_oneOf fun v => flat_oneOf fun u => flat_det (det_indexL E.L t v u)
  case extract x i => exact flat_oneOf fun v => flat_det (det_extractL v i)
  case call c =>
    unfold callL
    cases evs A c.args.toList with
    | none => exact flat_false
    | some vs =>
      simp only
      cases hc : c.callee with
      | invoke r m => rw [hc] at h; exact absurd h Bool.false_ne_true
      | value f => rw [hc] at h; exact absurd h Bool.false_ne_true
      | builtin b =>
        rw [hc] at h
        simp only
        unfold builtinL
        cases b <;> simp only at h ⊢ <;> try exact absurd h Bool.false_ne_true
        case len =>
          match c.argTypes.toList, vs with
          | [t], [x] => exact flat_det (det_lenL E.L t x)
          | [], _ => exact flat_false
          | [t], [] => exact flat_false
          | [t], _ :: _ :: _ => exact flat_false
          | _ :: _ :: _, _ => exact flat_false
        all_goals
          split
          · first
            | exact flat_ret _
            | exact flat_det (Y := fun K => _ ∧ K _) (fun K h => ⟨_, ⟨h.1, rfl⟩, h.2⟩)
          · exact flat_false

/-- What is yielded does not hang on the heap. -/
theorem still_moves {E : Env} {A : Fr} {o : Oper} (h : still E o = true) {s s1 s' : LS} {v : LV} (hx : opL E A o s fun u s2 => u = v ∧ s2 = s') :
    s' = s ∧ opL E A o s1 fun u s2 => u = v ∧ s2 = s1 := by
  obtain ⟨Y, hd, hY⟩ := opL_still (A := A) h
  rw [hY] at hx
  obtain ⟨u, h1, rfl, h2⟩ := hd _ hx
  refine ⟨h2.symm, ?_⟩
  rw [hY]
  have : (fun w => w = u ∧ s1 = s1) = (fun w => w = u) := by funext w; simp
  show Y (fun w => w = u ∧ s1 = s1)
  rw [this]; exact h1

theorem looker_keeps {E : Env} {A : Fr} {o : Oper} (h : looker o = true) {s s' : LS} {v : LV} (hx : opL E A o s fun u s2 => u = v ∧ s2 = s') : s' = s := by
  obtain ⟨dst, op, type, pos, after, guard⟩ := o
  unfold looker at h
  unfold opL at hx
  cases op <;> simp only at h hx <;> try exact absurd h Bool.false_ne_true
  case load t x =>
    obtain ⟨p, hp, hx⟩ := oneOf_elim hx
    obtain ⟨u, _, _, h2⟩ := det_loadL E.L s t p _ hx
    exact h2.symm
  case slice t x lo hi mx =>
    obtain ⟨p, hp, hx⟩ := oneOf_elim hx
    cases h1 : evo A lo with
    | none => rw [h1] at hx; exact hx.elim
    | some lo' =>
      cases h2 : evo A hi with
      | none => rw [h1, h2] at hx; exact hx.elim
      | some hi' =>
        cases h3 : evo A mx with
        | none => rw [h1, h2, h3] at hx; exact hx.elim
        | some mx' =>
          rw [h1, h2, h3] at hx
          obtain ⟨u, _, _, h2⟩ := det_sliceL E.L s t p lo' hi' mx' _ hx.2
          exact h2.symm
  case indexAddr t x i =>
    obtain ⟨p, hp, hx⟩ := oneOf_elim hx
    obtain ⟨q, hq, hx⟩ := oneOf_elim hx
    obtain ⟨u, _, _, h2⟩ := det_indexAddrL E.L s t p q _ hx
    exact h2.symm

/-! ### The run in the order of the text -/
/-- What one operation of the run did. -/
structure Rec where
  o : Oper
  A : Fr
  s : LS
  v : LV
  s' : LS
  did : Bool

def drawL (E : Env) (ops : List Oper) (i : Nat) (rest : List Oper) (A : Fr) (s : LS) (tr : List Rec) (K : List Rec → Fr → LS → Prop) : Prop := match rest with
  | [] => K tr A s
  | o :: r => dstOk A o.dst (guardL ops A o.guard
      (opL E A o s fun v s' => splitB (isGuard ops i) v fun v => drawL E ops (i + 1) r (A.put o.dst v) s' (tr ++ [⟨o, A, s, v, s', true⟩]) K)
      (drawL E ops (i + 1) r (A.put o.dst (.tup [])) s (tr ++ [⟨o, A, s, .tup [], s, false⟩]) K))

/-- One step of the run. -/
structure RecOk (E : Env) (ops : List Oper) (o : Oper) (A : Fr) (s : LS) (t : Rec) : Prop where
  eo : t.o = o
  eA : t.A = A
  es : t.s = s
  dst : ∀ k, o.dst = some k → k < A.n
  cases : (t.did = true ∧ guardL ops A o.guard True False ∧ opL E A o s fun v s' => v = t.v ∧ s' = t.s') ∨
    (t.did = false ∧ guardL ops A o.guard False True ∧ t.v = .tup [] ∧ t.s' = s)

def TrOk (E : Env) (ops : List Oper) : List Oper → Fr → LS → List Rec → Fr → LS → Prop
  | [], A, s, [], Af, sf => Af = A ∧ sf = s
  | o :: r, A, s, t :: T, Af, sf => RecOk E ops o A s t ∧ TrOk E ops r (A.put o.dst t.v) t.s' T Af sf
  | _, _, _, _, _, _ => False

theorem guardL_or {ops : List Oper} {A : Fr} {g : Option (Nat × Bool)} {X Y : Prop} (h : guardL ops A g X Y) : (guardL ops A g True False ∧ X) ∨ (guardL ops A g False True ∧ Y) := by
  unfold guardL at h ⊢
  cases g with
  | none => exact .inl ⟨trivial, h⟩
  | some p =>
    obtain ⟨j, want⟩ := p
    simp only at h ⊢
    cases h1 : nth ops j with
    | none => rw [h1] at h; exact h.elim
    | some oj =>
      rw [h1] at h
      simp only at h ⊢
      cases h2 : oj.dst with
      | none => rw [h2] at h; exact h.elim
      | some d =>
        rw [h2] at h
        simp only at h ⊢
        split at h
        · rename_i b hb
          cases b <;> cases want <;> simp at h ⊢ <;> exact h
        · simp at h ⊢; exact h
        · exact h.elim

theorem drawL_tr {E : Env} {ops : List Oper} {K : List Rec → Fr → LS → Prop} : ∀ (rest : List Oper) (i : Nat) (A : Fr) (s : LS) (tr : List Rec), drawL E ops i rest A s tr K →
    ∃ T Af sf, TrOk E ops rest A s T Af sf ∧ K (tr ++ T) Af sf := by
  intro rest
  induction rest with
  | nil => intro i A s tr h; exact ⟨[], A, s, ⟨rfl, rfl⟩, by simpa [drawL] using h⟩
  | cons o r ih =>
    intro i A s tr h
    simp only [drawL] at h
    obtain ⟨hd, h⟩ := dstOk_elim h
    rcases guardL_or h with ⟨hg, h⟩ | ⟨hg, h⟩
    · obtain ⟨v, s', h1, h2⟩ := det_opL E A o s _ h
      obtain ⟨T, Af, sf, h3, h4⟩ := ih _ _ _ _ (splitB_elim h2)
      refine ⟨⟨o, A, s, v, s', true⟩ :: T, Af, sf, ⟨⟨rfl, rfl, rfl, hd, .inl ⟨rfl, hg, h1⟩⟩, h3⟩, ?_⟩
      simpa using h4
    · obtain ⟨T, Af, sf, h3, h4⟩ := ih _ _ _ _ h
      refine ⟨⟨o, A, s, .tup [], s, false⟩ :: T, Af, sf, ⟨⟨rfl, rfl, rfl, hd, .inr ⟨rfl, hg, rfl, rfl⟩⟩, h3⟩, ?_⟩
      simpa using h4

end Den
/- Den, part 16: a region whose order is drawn: which operations come ahead of which; what moves. -/
set_option linter.unusedSimpArgs false
set_option linter.unusedVariables false
namespace Den
open Go

/-! ### What comes ahead -/
inductive Pre (ops : List Oper) : Nat → Nat → Prop
  | edge (i : Nat) (o : Oper) (e : Edge) (h : ops[i]? = some o) (he : e ∈ o.after) (hb : Region.binds .any e = true) : Pre ops i e.on
  | step (i : Nat) (o : Oper) (e : Edge) (j : Nat) (h : ops[i]? = some o) (he : e ∈ o.after) (hb : Region.binds .any e = true) (hp : Pre ops e.on j) : Pre ops i j

def edgeMask (bel : List Nat) : List Edge → Nat
  | [] => 0
  | e :: r => bif Region.binds .any e then ((2 ^ e.on) ||| (match nth bel e.on with | some m => m | none => 0)) ||| edgeMask bel r else edgeMask bel r

def bels : List Oper → List Nat → List Nat
  | [], bel => bel
  | o :: r, bel => bels r (bel ++ [edgeMask bel o.after.toList])

theorem edgeMask_ok {ops : List Oper} {bel : List Nat} {i : Nat} {o : Oper} (ho : ops[i]? = some o)
    (hb : ∀ p m j, bel[p]? = some m → m.testBit j = true → Pre ops p j) : ∀ (es : List Edge), (∀ e ∈ es, e ∈ o.after) → ∀ j, (edgeMask bel es).testBit j = true → Pre ops i j := by
  intro es
  induction es with
  | nil => intro _ j h; simp [edgeMask] at h
  | cons e r ih =>
    intro hes j h
    have hr := ih (fun x hx => hes x (by simp [hx])) j
    simp only [edgeMask] at h
    cases hbd : Region.binds .any e with
    | false => rw [hbd] at h; exact hr h
    | true =>
      rw [hbd] at h
      simp only [cond_true, Nat.testBit_or, Bool.or_eq_true] at h
      rcases h with (h | h) | h
      · rw [Nat.testBit_two_pow] at h
        have : e.on = j := by simpa using h
        subst this
        exact .edge i o e ho (hes e (by simp)) hbd
      · rw [nth_eq] at h
        cases hm : bel[e.on]? with
        | none => rw [hm] at h; simp at h
        | some m => rw [hm] at h; exact .step i o e j ho (hes e (by simp)) hbd (hb _ m j hm h)
      · exact hr h

theorem bels_ok {ops : List Oper} : ∀ (rest : List Oper) (bel : List Nat), ops.drop bel.length = rest → (∀ p m j, bel[p]? = some m → m.testBit j = true → Pre ops p j) →
    ∀ p m j, (bels rest bel)[p]? = some m → m.testBit j = true → Pre ops p j := by
  intro rest
  induction rest with
  | nil => intro bel _ h; exact h
  | cons o r ih =>
    intro bel hd h
    have ho : ops[bel.length]? = some o := by
      have := congrArg (·[0]?) hd
      simpa using this
    refine ih _ ?_ ?_
    · have := congrArg List.tail hd
      simpa using this
    · intro p m j hp hm
      rw [List.getElem?_append] at hp
      split at hp
      · exact h p m j hp hm
      · rename_i hlt
        have hpe : p - bel.length = 0 := by
          cases hq : p - bel.length with
          | zero => rfl
          | succ q => rw [hq] at hp; simp at hp
        have : p = bel.length := by omega
        subst this
        simp at hp
        subst hp
        exact edgeMask_ok ho h o.after.toList (fun e he => by simpa using he) j hm

/-- Does one operation come ahead of another, in every order? -/
def ahead (bl : List Nat) (i j : Nat) : Bool := match nth bl i with
  | some m => m.testBit j
  | none => false

theorem ahead_pre {ops : List Oper} {i j : Nat} (h : ahead (bels ops []) i j = true) : Pre ops i j := by
  unfold ahead at h
  split at h
  · rename_i m hm
    rw [nth_eq] at hm
    exact bels_ok ops [] rfl (by simp) i m j hm h
  · exact absurd h Bool.false_ne_true

theorem Pre.closed {ops : List Oper} {S : Nat → Prop} (hS : ∀ i o, ops[i]? = some o → S i → ∀ e ∈ o.after, Region.binds .any e = true → S e.on) {i j : Nat} (h : Pre ops i j) (hi : S i) : S j := by
  induction h with
  | edge i o e h he hb => exact hS i o h hi e he hb
  | step i o e j h he hb hp ih => exact ih (hS i o h hi e he hb)

theorem Pre.ready {ops : List Oper} {S : Nat → Prop} (hS : ∀ i o, ops[i]? = some o → S i → ∀ e ∈ o.after, Region.binds .any e = true → S e.on) {i j : Nat} {o : Oper} (ho : ops[i]? = some o)
    (hr : ∀ e ∈ o.after, Region.binds .any e = true → S e.on) (h : Pre ops i j) : S j := by
  cases h with
  | edge _ o' e h he hb => rw [ho] at h; injection h with h; subst h; exact hr e he hb
  | step _ o' e _ h he hb hp => rw [ho] at h; injection h with h; subst h; exact hp.closed hS (hr e he hb)

/-! ### Contexts that agree -/
structure Ext0 (c c' : Cx) : Prop where
  ok : ∀ id, c.ok id → c'.ok id
  size : c.w.heap.size ≤ c'.w.heap.size
  box : ∀ id v' t', id < c.s.next → c'.s.get id = some (.box v' t') → c'.ι id = c.ι id ∧ c.s.get id = some (.box v' t')
  row : ∀ id es' t' g', id < c.s.next → c'.s.get id = some (.row es' t' g') → c'.ι id = c.ι id ∧ c.s.get id = some (.row es' t' g')
  mp : ∀ id kv', id < c.s.next → c'.s.get id = some (.mp kv') → c'.ι id = c.ι id ∧ c.s.get id = some (.mp kv')
  zed : ∀ b, b < c.w.heap.size → ¬ c.Z b → ¬ c'.Z b
  same : ∀ b, b < c.w.heap.size → ¬ c.Z b → c'.w.heap[b]? = c.w.heap[b]?

theorem VR.move {P : Program} {c c' : Cx} (hE : Ext0 c c') {v : LV} {v' : Value} (h : VR P c v v') : VR P c' v v' := by
  induction h with
  | bool b => exact .bool b
  | int k n => exact .int k n
  | flt k b => exact .flt k b
  | cpx k a b => exact .cpx k a b
  | str s => exact .str s
  | nilp => exact .nilp
  | nils => exact .nils
  | nilm => exact .nilm
  | nilf => exact .nilf
  | bptr id j a hn h =>
    refine .bptr id j a (hE.ok _ hn) fun v t hg => ?_
    obtain ⟨e, h0⟩ := hE.box id v t hn.1 hg
    rw [e]; exact h v t h0
  | rptr id i j len a hn h =>
    refine .rptr id i j len a (hE.ok _ hn) fun es t g hg => ?_
    obtain ⟨e, h0⟩ := hE.row id es t g hn.1 hg
    rw [e]; exact h es t g h0
  | hsl id i n cc a cc' hn hcap hcc h =>
    refine .hsl id i n cc a cc' (hE.ok _ hn) hcap hcc fun es t g hg => ?_
    obtain ⟨e, h0⟩ := hE.row id es t g hn.1 hg
    rw [e]; exact h es t g h0
  | lit0 a cc' full hf ha => exact .lit0 a cc' full hf ha
  | lit es full b o cc' esz vs n hlen hcap hf hz hb hsz hc hv ih =>
    refine .lit es full b o cc' esz vs n hlen hcap hf (hE.zed b hb hz) (Nat.lt_of_lt_of_le hb hE.size) hsz (fun i e j v he hj => ?_) ih
    rw [cell_same (hE.same b hb hz)]
    exact hc i e j v he hj
  | lptr e j b o vs hz hb hc hv ih =>
    refine .lptr e j b o vs (hE.zed b hb hz) (Nat.lt_of_lt_of_le hb hE.size) (fun k v hk => ?_) ih
    rw [cell_same (hE.same b hb hz)]
    exact hc k v hk
  | agg cs ds hl hv ih => exact .agg cs ds hl ih
  | tup cs ds hl hv ih => exact .tup cs ds hl ih
  | fn f cs ds hl hv ih => exact .fn f cs ds hl ih
  | map id r hn h =>
    refine .map id r (hE.ok _ hn) fun kv hg => ?_
    obtain ⟨e, h0⟩ := hE.mp id kv hn.1 hg
    rw [e]; exact h kv h0

/-- What a new object holds, whatever the context. -/
def Fresh (P : Program) (lo : LObj) (K : Nat) (cs : Array Value) (t : TypeId) : Prop := ∀ c : Cx,
  (∃ v, lo = .box v t ∧ cs.size = v.cells.length ∧ ∀ (j : Nat) x x', v.cells[j]? = some x → cs[j]? = some x' → VR P c x x') ∨
  (∃ es g, lo = .row es t g ∧ cs.size = K * P.cellsOf t ∧ es.length ≤ K ∧ (∀ (i : Nat) e, es[i]? = some e → e.cells.length = P.cellsOf t) ∧
    ∀ (i : Nat) e (j : Nat) x x', es[i]? = some e → e.cells[j]? = some x → cs[i * P.cellsOf t + j]? = some x' → VR P c x x')

/-- A block that was set aside is taken for a new object. -/
def Cx.adopt (c : Cx) (b K : Nat) (lo : LObj) : Cx := ⟨fun x => c.X x ∧ x ≠ b, c.R, fun j => if j = c.s.next then (b, K) else c.ι j, c.s.alloc lo, c.w⟩

section
variable {P : Program} {c : Cx}

theorem Ext0.adopt (hr : Rel P c) {b K : Nat} {lo : LObj} (hX : c.X b) : Ext0 c (c.adopt b K lo) where
  ok id h := ⟨Nat.lt_succ_of_lt h.1, h.2⟩
  size := Nat.le_refl _
  box id v t hi hg := by
    have : id ≠ c.s.next := by omega
    simp [Cx.adopt, LS.alloc, this] at hg ⊢
    exact hg
  row id es t g hi hg := by
    have : id ≠ c.s.next := by omega
    simp [Cx.adopt, LS.alloc, this] at hg ⊢
    exact hg
  mp id kv hi hg := by
    have : id ≠ c.s.next := by omega
    simp [Cx.adopt, LS.alloc, this] at hg ⊢
    exact hg
  zed x hx hz := by
    rintro (h | ⟨id, o, h1, h2⟩)
    · exact hz (.inl h.1)
    · by_cases e : id = c.s.next
      · subst e; simp [Cx.adopt] at h2; subst h2; exact hz (.inl hX)
      · simp [Cx.adopt, LS.alloc, e] at h1 h2; exact hz (.inr ⟨id, o, h1, h2⟩)
  same _ _ _ := rfl

theorem Rel.adopt (hr : Rel P c) {b K : Nat} {lo : LObj} {cs : Array Value} {t : TypeId} (hX : c.X b) (hh : c.w.heap[b]? = some (.cells cs t (0, 0))) (hf : Fresh P lo K cs t) : Rel P (c.adopt b K lo) := by
  have hE := Ext0.adopt hr (K := K) (lo := lo) hX
  have hnl : ∀ id o, c.s.get id = some o → id ≠ c.s.next := fun id o h e => by have := hr.lt id o h; omega
  refine ⟨?_, ?_, ?_, ?_, ?_, ?_, ?_, ?_, ?_⟩
  · intro id o h
    simp only [Cx.adopt, LS.alloc] at h ⊢
    split at h
    · omega
    · have := hr.lt id o h; omega
  · intro id h
    obtain ⟨h1, h2⟩ := hr.res id h
    have : id ≠ c.s.next := by omega
    simp [Cx.adopt, LS.alloc, this]
    exact ⟨by omega, h2⟩
  · intro id o h
    by_cases e : id = c.s.next
    · subst e; simp [Cx.adopt]; exact hr.xlt b hX
    · simp [Cx.adopt, LS.alloc, e] at h ⊢; exact hr.blt id o h
  · intro id id' o o' h h' hι
    by_cases e : id = c.s.next <;> by_cases e' : id' = c.s.next
    · rw [e, e']
    · subst e
      simp [Cx.adopt, LS.alloc, e'] at h h' hι
      exact absurd ⟨id', o', h', hι.symm⟩ (hr.dis b hX)
    · subst e'
      simp [Cx.adopt, LS.alloc, e] at h h' hι
      exact absurd ⟨id, o, h, hι⟩ (hr.dis b hX)
    · simp [Cx.adopt, LS.alloc, e, e'] at h h' hι
      exact hr.inj id id' o o' h h' hι
  · rintro x ⟨hx, hxb⟩ ⟨id, o, h1, h2⟩
    by_cases e : id = c.s.next
    · subst e; simp [Cx.adopt] at h2; exact hxb h2.symm
    · simp [Cx.adopt, LS.alloc, e] at h1 h2; exact hr.dis x hx ⟨id, o, h1, h2⟩
  · rintro x ⟨hx, _⟩; exact hr.xlt x hx
  · intro id v t' h
    by_cases e : id = c.s.next
    · subst e
      simp [Cx.adopt, LS.alloc] at h
      subst h
      rcases hf (c.adopt b K (.box v t')) with ⟨v1, h1, h2, h3⟩ | ⟨es, g, h1, _⟩
      · injection h1 with e1 e2; subst e1; subst e2
        exact ⟨cs, by simpa [Cx.adopt] using hh, h2, h3⟩
      · cases h1
    · have hg : c.s.get id = some (.box v t') := by simpa [Cx.adopt, LS.alloc, e] using h
      obtain ⟨cs', h1, h2, h3⟩ := hr.box id v t' hg
      exact ⟨cs', by simpa [Cx.adopt, e] using h1, h2, fun j x x' hx hx' => (h3 j x x' hx hx').move hE⟩
  · intro id es t' g h
    by_cases e : id = c.s.next
    · subst e
      simp [Cx.adopt, LS.alloc] at h
      subst h
      rcases hf (c.adopt b K (.row es t' g)) with ⟨v1, h1, _⟩ | ⟨es1, g1, h1, h2, h3, h4, h5⟩
      · cases h1
      · injection h1 with e1 e2 e3; subst e1; subst e2; subst e3
        exact ⟨cs, by simpa [Cx.adopt] using hh, by simpa [Cx.adopt] using h2, by simpa [Cx.adopt] using h3, h4, h5⟩
    · have hg : c.s.get id = some (.row es t' g) := by simpa [Cx.adopt, LS.alloc, e] using h
      obtain ⟨cs', h1, h2, h3, h4, h5⟩ := hr.row id es t' g hg
      exact ⟨cs', by simpa [Cx.adopt, e] using h1, by simpa [Cx.adopt, e] using h2, by simpa [Cx.adopt, e] using h3, h4, fun i x j y y' hx hy hy' => (h5 i x j y y' hx hy hy').move hE⟩
  · intro id kv h
    by_cases e : id = c.s.next
    · subst e
      simp [Cx.adopt, LS.alloc] at h
      subst h
      rcases hf (c.adopt b K (.mp kv)) with ⟨v1, h1, _⟩ | ⟨es1, g1, h1, _⟩ <;> cases h1
    · have hg : c.s.get id = some (.mp kv) := by simpa [Cx.adopt, LS.alloc, e] using h
      obtain ⟨es, cl, h1, h2, h3⟩ := hr.mp id kv hg
      exact ⟨es, cl, by simpa [Cx.adopt, e] using h1, h2, fun i p x hp hx => by
        obtain ⟨h4, h5, h6⟩ := h3 i p x hp hx
        exact ⟨h4.move hE, h5.move hE, h6⟩⟩

/-- A new block is set aside. -/
def Cx.aside (c : Cx) (o : Obj) : Cx := ⟨fun x => c.X x ∨ x = c.w.heap.size, c.R, c.ι, c.s, c.w.alloc o⟩

theorem Ext0.aside (hr : Rel P c) (o : Obj) : Ext0 c (c.aside o) where
  ok id h := h
  size := by simp [Cx.aside]
  box id v t hi hg := ⟨rfl, hg⟩
  row id es t g hi hg := ⟨rfl, hg⟩
  mp id kv hi hg := ⟨rfl, hg⟩
  zed x hx hz := by
    rintro ((h | h) | h)
    · exact hz (.inl h)
    · omega
    · exact hz (.inr h)
  same b hb _ := alloc_old c.w o b hb

theorem Rel.aside (hr : Rel P c) (o : Obj) : Rel P (c.aside o) := by
  have hE := Ext0.aside hr o
  have hj := hr.junk o
  refine ⟨hj.lt, hj.res, hj.blt, hj.inj, ?_, ?_, ?_, ?_, ?_⟩
  · rintro b (h | h) ⟨id, o', h1, h2⟩
    · exact hr.dis b h ⟨id, o', h1, h2⟩
    · have := hr.blt id o' h1; simp [Cx.aside] at h2; omega
  · rintro b (h | h)
    · exact hj.xlt b h
    · simp [Cx.aside]; omega
  · intro id v t h
    obtain ⟨cs, h1, h2, h3⟩ := hr.box id v t h
    exact ⟨cs, (alloc_old c.w o _ (hr.blt id _ h)).trans h1, h2, fun j x x' hx hx' => (h3 j x x' hx hx').move hE⟩
  · intro id es t g h
    obtain ⟨cs, h1, h2, h3, h4, h5⟩ := hr.row id es t g h
    exact ⟨cs, (alloc_old c.w o _ (hr.blt id _ h)).trans h1, h2, h3, h4, fun i e j x x' he hx hx' => (h5 i e j x x' he hx hx').move hE⟩
  · intro id kv h
    obtain ⟨es, cl, h1, h2, h3⟩ := hr.mp id kv h
    exact ⟨es, cl, (alloc_old c.w o _ (hr.blt id _ h)).trans h1, h2, fun i p e hp he => by
      obtain ⟨h4, h5, h6⟩ := h3 i p e hp he
      exact ⟨h4.move hE, h5.move hE, h6⟩⟩

/-! ### Operations that may float -/
def floats (o : Oper) : Bool := match o.op with
  | .alloc _ | .makeSlice _ _ _ => match o.guard with
    | none => match o.dst with
      | some _ => true
      | none => false
    | some _ => false
  | _ => false

/-- What a floating operation makes. -/
structure Made (P : Program) (s s' : LS) (v : LV) (v' : Value) (b : Nat) (cs : Array Value) (t : TypeId) : Prop where
  made : ∃ lo K, s' = s.alloc lo ∧ Fresh P lo K cs t ∧ ∀ c : Cx, c.ok s.next → c.s.get s.next = some lo → c.ι s.next = (b, K) → VR P c v v'

theorem floats_run {E : Env} (hL : LayOk P E.L) {A : Fr} {a : Act} (ha : AR P c A a) {o : Oper} (hf : floats o = true) {s s' : LS} {v : LV} (h : opL E A o s fun u s2 => u = v ∧ s2 = s') :
    ∃ v' cs t, (execOp a.eval o).run P c.w = .ok (.value v') (c.w.alloc (.cells cs t)) ∧ Made P s s' v v' c.w.heap.size cs t := by
  obtain ⟨dst, op, type, pos, after, guard⟩ := o
  unfold floats at hf
  unfold opL at h
  cases op <;> simp only at h hf <;> try exact absurd hf Bool.false_ne_true
  case alloc t =>
    unfold allocL at h
    split at h
    case h_2 => exact h.elim
    rename_i l hl
    obtain ⟨i, d, z, hi, hd, hz, hlz, hs, hb, hk⟩ := hL.info hl
    obtain ⟨rfl, rfl⟩ := h
    refine ⟨.pointer (some ⟨c.w.heap.size, 0, none⟩), z.cells, t, by simp [execOp, Instr.alloc, zeroValue, typeInfo, hi, hz, newVar, newRow], ⟨.box l.zero t, 1, rfl, fun c => .inl ⟨l.zero, rfl, ?_, ?_⟩, ?_⟩⟩
    · exact (VR.const (P := P) (c := c) hlz).cells.1
    · exact (VR.const (P := P) (c := c) hlz).cells.2
    · intro c hok hg hι
      refine .bptr _ _ _ hok fun v t' hg' => ?_
      rw [hι]
  case makeSlice t x y =>
    obtain ⟨p, hp, h⟩ := oneOf_elim h
    obtain ⟨q, hq, h⟩ := oneOf_elim h
    have hx := ev_sound ha hp
    have hy := ev_sound ha hq
    unfold makeSliceL at h
    split at h
    case h_2 => exact h.elim
    rename_i k n k' m _
    split at h
    case h_2 => exact h.elim
    rename_i l hlt
    obtain ⟨i, d, z, hi, hd, _, _, _, _, hk⟩ := hL.info hlt
    split at h
    case h_2 => exact h.elim
    rename_i e he
    rw [he] at hk
    obtain rfl := sl_inv hk
    split at h
    case h_2 => exact h.elim
    rename_i le hle
    obtain ⟨i2, d2, z2, hi2, hd2, hz2, hlz2, hs2, hb2, _⟩ := hL.info hle
    cases hb : (Nat.beq le.zero.cells.length le.size) with
    | false => simp [hb] at h
    | true =>
      simp only [hb, cond_true] at h
      obtain ⟨rfl, h0, h1, h2, rfl, rfl⟩ := h
      have hb1 := Nat.eq_of_beq_eq_true hb
      have hsz := hL.size hle
      have hrun := run_make (P := P) c.w t e i2 z2 hd hi2 hz2 k k' n n h0 (Int.le_refl _) (by rw [hb2]; exact h1) h2
      rw [hs2] at hrun
      generalize hex : a.eval x = x' at hx
      generalize hey : a.eval y = y' at hy
      cases hx; cases hy
      refine ⟨.slice (some ⟨c.w.heap.size, 0, none⟩) n.toNat n.toNat, madeCells z2.cells (n.toNat * le.size), e, by simp [execOp, hex, hey, hrun], ⟨.row (List.replicate n.toNat le.zero) e false, n.toNat, rfl, fun c => .inr ⟨_, _, rfl, ?_, ?_, ?_, ?_⟩, ?_⟩⟩
      · simp [size_madeCells, hsz]
      · simp
      · rw [hsz]; intro i x hx; rw [List.getElem?_replicate] at hx; split at hx <;> simp at hx; subst hx; exact hb1
      · rw [hsz]
        have := made_RC (P := P) (c := c) hL (e := e) hlz2 n.toNat hb1
        exact fun i e j x x' he hx hx' => this i e j x x' he hx (by simpa using hx')
      · intro c hok hg hι
        refine .hsl _ _ _ _ _ _ hok (Nat.le_refl _) (by simp) fun es t g hg' => ?_
        rw [hg] at hg'
        simp at hg'
        obtain ⟨rfl, rfl, rfl⟩ := hg'
        rw [hι]
        simp

end
end Den
/- Den, part 17: a region whose order is drawn: any order does as the text's. -/
set_option linter.unusedSimpArgs false
set_option linter.unusedVariables false
namespace Den
open Go

/-! ### The run's frames and heaps -/
def frAfter (A0 : Fr) : List Rec → Fr
  | [] => A0
  | t :: r => frAfter (A0.put t.o.dst t.v) r
def sAfter (s0 : LS) : List Rec → LS
  | [] => s0
  | t :: r => sAfter t.s' r

theorem frAfter_append (A0 : Fr) (x y : List Rec) : frAfter A0 (x ++ y) = frAfter (frAfter A0 x) y := by
  induction x generalizing A0 with
  | nil => rfl
  | cons t r ih => exact ih _
theorem sAfter_append (s0 : LS) (x y : List Rec) : sAfter s0 (x ++ y) = sAfter (sAfter s0 x) y := by
  induction x generalizing s0 with
  | nil => rfl
  | cons t r ih => exact ih _
theorem frAfter_n (A0 : Fr) (x : List Rec) : (frAfter A0 x).n = A0.n := by
  induction x generalizing A0 with
  | nil => rfl
  | cons t r ih => simp only [frAfter]; rw [ih, Fr.put_n]

theorem TrOk.get {E : Env} {ops : List Oper} : ∀ {rest : List Oper} {A : Fr} {s : LS} {T : List Rec} {Af : Fr} {sf : LS}, TrOk E ops rest A s T Af sf →
    T.length = rest.length ∧ Af = frAfter A T ∧ sf = sAfter s T ∧
    ∀ i o, rest[i]? = some o → ∃ t, T[i]? = some t ∧ RecOk E ops o (frAfter A (T.take i)) (sAfter s (T.take i)) t := by
  intro rest
  induction rest with
  | nil =>
    intro A s T Af sf h
    cases T with
    | nil => obtain ⟨rfl, rfl⟩ := h; exact ⟨rfl, rfl, rfl, by simp⟩
    | cons t T => exact h.elim
  | cons o r ih =>
    intro A s T Af sf h
    cases T with
    | nil => exact h.elim
    | cons t T =>
      obtain ⟨h1, h2⟩ := h
      obtain ⟨h3, h4, h5, h6⟩ := ih h2
      have e : o = t.o := h1.eo.symm
      refine ⟨by simp [h3], by rw [h4, e]; rfl, by rw [h5]; rfl, fun i o' hi => ?_⟩
      cases i with
      | zero => simp at hi; subst hi; exact ⟨t, rfl, h1⟩
      | succ i =>
        simp at hi
        obtain ⟨t', h7, h8⟩ := h6 i o' hi
        refine ⟨t', by simpa using h7, ?_⟩
        rw [e] at h8
        exact h8

def stOf (T : List Rec) (ch : List Nat) (s0 : LS) : Nat → LS
  | 0 => s0
  | k + 1 => match nth ch k with
    | some j => match nth T j with
      | some t => t.s'
      | none => s0
    | none => s0

/-! ### What is asked of the run -/
def eqL (E : Env) (ch : List Nat) : Nat → List Rec → Prop
  | _, [] => True
  | i, t :: r => match ch.contains i || still E t.o || looker t.o with
    | true => eqL E ch (i + 1) r
    | false => t.s' = t.s ∧ eqL E ch (i + 1) r

def demL (E : Env) (T : List Rec) (ch : List Nat) (s0 : LS) : List (Nat × Nat) → Prop
  | [] => True
  | (i, k) :: r => (match nth T i with
    | some t => match t.did with
      | true => opL E t.A t.o (stOf T ch s0 k) fun v s' => v = t.v ∧ s' = stOf T ch s0 k
      | false => True
    | none => False) ∧ demL E T ch s0 r

/-! ### What is asked of the region -/
def pairOk (ops : List Oper) (bl : List Nat) (i j : Nat) : Bool := match nth ops i with
  | some oi => match nth ops j with
    | some oj => match oj.dst with
      | some d => (Nat.beq i j || (match oi.dst with | some d' => !Nat.beq d d' | none => true)) &&
          (!(oi.looksAt ops.toArray).contains d || (ahead bl i j && Nat.blt j i) || Nat.beq j i || ahead bl j i)
      | none => true
    | none => true
  | none => true

def possible (bl ch : List Nat) (i k : Nat) : Bool := (List.range ch.length).all fun r => match nth ch r with
  | some j => (!ahead bl i j || Nat.blt r k) && (!Nat.blt r k || !ahead bl j i)
  | none => true
def here (ch : List Nat) (i k : Nat) : Bool := (List.range ch.length).all fun r => match nth ch r with
  | some j => Nat.blt j i == Nat.blt r k
  | none => true

def callish (o : Oper) : Bool := match o.op with
  | .call _ => true
  | _ => false

def statOk (E : Env) (ops : List Oper) (ch fl : List Nat) (un : List (Nat × Nat)) : Bool :=
  let bl := bels ops []
  let n := ops.length
  let m := ch.length
  ((List.range n).all fun i => (List.range n).all fun j => pairOk ops bl i j) &&
  ((List.range n).all fun i => match nth ops i with
    | some o => o.after.toList.all fun e => !Region.binds .any e || Nat.blt e.on i
    | none => true) &&
  (ch.all fun j => Nat.blt j n) &&
  ((List.range m).all fun r' => (List.range r').all fun r => match nth ch r' with
    | some b => match nth ch r with
      | some a => Nat.blt a b && (fl.contains b || ahead bl b a)
      | none => true
    | none => true) &&
  (fl.all fun f => ch.contains f && match nth ops f with
    | some o => floats o && fl.all fun g => match nth ops g with
      | some og => match og.dst with
        | some d => !(o.looksAt ops.toArray).contains d
        | none => true
      | none => true
    | none => false) &&
  ((List.range n).all fun i => ch.contains i || match nth ops i with
    | some o => (still E o || looker o || callish o) &&
      ((List.range m).all fun r' => (List.range r').all fun r => match nth ch r' with
        | some b => match nth ch r with
          | some a => !ahead bl i b || ahead bl i a
          | none => true
        | none => true) &&
      (still E o || (List.range (m + 1)).all fun k => !possible bl ch i k || here ch i k || un.any fun p => Nat.beq p.1 i && Nat.beq p.2 k)
    | none => true)

structure Stat (E : Env) (ops : List Oper) (ch fl : List Nat) (un : List (Nat × Nat)) : Prop where
  edge : ∀ i o, ops[i]? = some o → ∀ e ∈ o.after, Region.binds .any e = true → e.on < i
  dst : ∀ (i j : Nat) oi oj d, ops[i]? = some oi → ops[j]? = some oj → oi.dst = some d → oj.dst = some d → i = j
  opnd : ∀ (i j : Nat) oi oj d, ops[i]? = some oi → ops[j]? = some oj → oj.dst = some d → d ∈ oi.looksAt ops.toArray → (ahead (bels ops []) i j = true ∧ j < i) ∨ j = i ∨ ahead (bels ops []) j i = true
  lt : ∀ j, j ∈ ch → j < ops.length
  inc : ∀ (r r' : Nat) a b, r < r' → ch[r]? = some a → ch[r']? = some b → a < b
  non : ∀ (r r' : Nat) a b, r < r' → ch[r]? = some a → ch[r']? = some b → b ∉ fl → ahead (bels ops []) b a = true
  flo : ∀ f, f ∈ fl → f ∈ ch ∧ ∃ o, ops[f]? = some o ∧ floats o = true
  ff : ∀ (f g : Nat) o og d, f ∈ fl → g ∈ fl → ops[f]? = some o → ops[g]? = some og → og.dst = some d → d ∉ o.looksAt ops.toArray
  kind : ∀ i o, i ∉ ch → ops[i]? = some o → still E o = true ∨ looker o = true ∨ callish o = true
  soft : ∀ i o (r r' : Nat) a b, i ∉ ch → ops[i]? = some o → r < r' → ch[r]? = some a → ch[r']? = some b → ahead (bels ops []) i b = true → ahead (bels ops []) i a = true
  win : ∀ i o k, i ∉ ch → ops[i]? = some o → still E o = false → k ≤ ch.length → possible (bels ops []) ch i k = true → here ch i k = true ∨ (i, k) ∈ un

theorem all_range {n : Nat} {p : Nat → Bool} (h : (List.range n).all p = true) (i : Nat) (hi : i < n) : p i = true :=
  List.all_eq_true.1 h i (List.mem_range.2 hi)

theorem lt_len {α : Type} {l : List α} {i : Nat} {x : α} (h : l[i]? = some x) : i < l.length := (List.getElem?_eq_some_iff.1 h).1

theorem blt_iff (a b : Nat) : Nat.blt a b = true ↔ a < b := by
  unfold Nat.blt
  constructor
  · intro h; have := Nat.le_of_ble_eq_true h; omega
  · intro h; exact Nat.ble_eq_true_of_le h

theorem statOk_spec {E : Env} {ops : List Oper} {ch fl : List Nat} {un : List (Nat × Nat)} (h : statOk E ops ch fl un = true) : Stat E ops ch fl un := by
  unfold statOk at h
  simp only [Bool.and_eq_true] at h
  obtain ⟨⟨⟨⟨⟨h1, h2⟩, h3⟩, h4⟩, h5⟩, h6⟩ := h
  have hpair : ∀ (i j : Nat) (oi oj : Oper) (d : Nat), ops[i]? = some oi → ops[j]? = some oj → oj.dst = some d →
      ((Nat.beq i j = true ∨ (match oi.dst with | some d' => !Nat.beq d d' | none => true) = true) ∧
        ((((!(oi.looksAt ops.toArray).contains d) = true ∨ (ahead (bels ops []) i j = true ∧ Nat.blt j i = true)) ∨ Nat.beq j i = true) ∨ ahead (bels ops []) j i = true)) := fun i j oi oj d hi hj hd => by
    have := all_range (all_range h1 i (lt_len hi)) j (lt_len hj)
    simp only [pairOk, nth_eq, hi, hj, hd, Bool.and_eq_true, Bool.or_eq_true] at this
    exact this
  refine ⟨?_, ?_, ?_, ?_, ?_, ?_, ?_, ?_, ?_, ?_, ?_⟩
  · intro i o hi e he hb
    have := all_range h2 i (lt_len hi)
    simp only [nth_eq, hi] at this
    have := List.all_eq_true.1 this e (by simpa using he)
    simp only [hb, Bool.not_true, Bool.false_or] at this
    exact (blt_iff _ _).1 this
  · intro i j oi oj d hi hj hdi hdj
    rcases (hpair i j oi oj d hi hj hdj).1 with h | h
    · exact Nat.eq_of_beq_eq_true h
    · rw [hdi] at h; simp at h
  · intro i j oi oj d hi hj hdj hl
    rcases (hpair i j oi oj d hi hj hdj).2 with ((h | h) | h) | h
    · simp at h; exact absurd hl h
    · exact .inl ⟨h.1, (blt_iff _ _).1 h.2⟩
    · exact .inr (.inl (Nat.eq_of_beq_eq_true h))
    · exact .inr (.inr h)
  · intro j hj
    exact (blt_iff _ _).1 (List.all_eq_true.1 h3 j hj)
  · intro r r' a b hr ha hb
    have := all_range (all_range h4 r' (lt_len hb)) r hr
    simp only [nth_eq, ha, hb, Bool.and_eq_true] at this
    exact (blt_iff _ _).1 this.1
  · intro r r' a b hr ha hb hn
    have := all_range (all_range h4 r' (lt_len hb)) r hr
    simp only [nth_eq, ha, hb, Bool.and_eq_true, Bool.or_eq_true] at this
    rcases this.2 with h | h
    · simp at h; exact absurd h hn
    · exact h
  · intro f hf
    have := List.all_eq_true.1 h5 f hf
    simp only [Bool.and_eq_true, nth_eq] at this
    refine ⟨by simpa using this.1, ?_⟩
    cases ho : ops[f]? with
    | none => rw [ho] at this; exact absurd this.2 Bool.false_ne_true
    | some o =>
      rw [ho] at this
      have := this.2
      simp only [Bool.and_eq_true] at this
      exact ⟨o, rfl, this.1⟩
  · intro f g o og d hf hg ho hog hd
    have := List.all_eq_true.1 h5 f hf
    simp only [Bool.and_eq_true, nth_eq, ho] at this
    have := List.all_eq_true.1 this.2.2 g hg
    simp only [hog, hd] at this
    simpa using this
  · intro i o hi ho
    have := all_range h6 i (lt_len ho)
    simp only [nth_eq, ho, Bool.or_eq_true, Bool.and_eq_true] at this
    rcases this with h | h
    · simp at h; exact absurd h hi
    · rcases h.1.1 with (h | h) | h
      · exact .inl h
      · exact .inr (.inl h)
      · exact .inr (.inr h)
  · intro i o r r' a b hi ho hr ha hb hab
    have := all_range h6 i (lt_len ho)
    simp only [nth_eq, ho, Bool.or_eq_true, Bool.and_eq_true] at this
    rcases this with h | h
    · simp at h; exact absurd h hi
    · have := all_range (all_range h.1.2 r' (lt_len hb)) r hr
      simp only [nth_eq, ha, hb, hab, Bool.not_true, Bool.false_or] at this
      exact this
  · intro i o k hi ho hs hk hp
    have := all_range h6 i (lt_len ho)
    simp only [nth_eq, ho, Bool.or_eq_true, Bool.and_eq_true] at this
    rcases this with h | h
    · simp at h; exact absurd h hi
    · rcases h.2 with h | h
      · rw [hs] at h; exact absurd h Bool.false_ne_true
      · have := all_range h k (by omega)
        simp only [hp, Bool.not_true, Bool.false_or, Bool.or_eq_true] at this
        rcases this with h | h
        · exact .inl h
        · obtain ⟨p, hp, hpp⟩ := List.any_eq_true.1 h
          simp only [Bool.and_eq_true] at hpp
          have e1 := Nat.eq_of_beq_eq_true hpp.1
          have e2 := Nat.eq_of_beq_eq_true hpp.2
          refine .inr ?_
          rw [← e1, ← e2]; exact hp

theorem demL_mem {E : Env} {T : List Rec} {ch : List Nat} {s0 : LS} : ∀ {un : List (Nat × Nat)}, demL E T ch s0 un → ∀ i k t, (i, k) ∈ un → T[i]? = some t → t.did = true →
    opL E t.A t.o (stOf T ch s0 k) fun v s' => v = t.v ∧ s' = stOf T ch s0 k
  | [], _, i, k, t, h, _, _ => by simp at h
  | (i', k') :: r, ⟨h1, h2⟩, i, k, t, h, ht, hd => by
    rcases List.mem_cons.1 h with h | h
    · injection h with e1 e2
      subst e1; subst e2
      rw [nth_eq, ht] at h1
      simp only [hd] at h1
      exact h1
    · exact demL_mem h2 i k t h ht hd

theorem eqL_get {E : Env} {ch : List Nat} : ∀ {T : List Rec} {i : Nat}, eqL E ch i T → ∀ p t, T[p]? = some t → (i + p) ∉ ch → still E t.o = false → looker t.o = false → t.s' = t.s := by
  intro T
  induction T with
  | nil => intro i _ p t h; simp at h
  | cons u r ih =>
    intro i h p t hp hn hs hl
    cases p with
    | zero =>
      simp at hp; subst hp
      have : (ch.contains i || still E u.o || looker u.o) = false := by simp [hs, hl]; simpa using hn
      simp only [eqL, this] at h
      exact h.1
    | succ p =>
      simp at hp
      have h' : eqL E ch (i + 1) r := by
        simp only [eqL] at h
        split at h
        · exact h
        · exact h.2
      exact ih h' p t hp (by rw [Nat.add_assoc, Nat.add_comm 1 p]; exact hn) hs hl

end Den
/- Den, part 18: a region whose order is drawn: the simulation. -/
set_option linter.unusedSimpArgs false
set_option linter.unusedVariables false
namespace Den
open Go

/-- A run, and what is known of it. -/
structure Plan (E : Env) (ops : List Oper) (ch fl : List Nat) (un : List (Nat × Nat)) (A0 : Fr) (s0 : LS) (T : List Rec) : Prop where
  st : Stat E ops ch fl un
  len : T.length = ops.length
  recs : ∀ i o, ops[i]? = some o → ∃ t, T[i]? = some t ∧ RecOk E ops o (frAfter A0 (T.take i)) (sAfter s0 (T.take i)) t
  eqs : eqL E ch 0 T
  dem : demL E T ch s0 un
  bare : ∀ f o d, f ∈ fl → ops[f]? = some o → o.dst = some d → A0.get d = none

section
variable {E : Env} {ops : List Oper} {ch fl : List Nat} {un : List (Nat × Nat)} {A0 : Fr} {s0 : LS} {T : List Rec}

theorem Plan.at (p : Plan E ops ch fl un A0 s0 T) {i : Nat} {t : Rec} (h : T[i]? = some t) : ∃ o, ops[i]? = some o ∧ RecOk E ops o (frAfter A0 (T.take i)) (sAfter s0 (T.take i)) t := by
  have hi : i < ops.length := by rw [← p.len]; exact lt_len h
  obtain ⟨t', h1, h2⟩ := p.recs i ops[i] (by simp [hi])
  rw [h] at h1; injection h1 with h1; subst h1
  exact ⟨_, by simp [hi], h2⟩

/-- An operation that is no part of the chain leaves the heap as it is. -/
theorem Plan.keeps (p : Plan E ops ch fl un A0 s0 T) {i : Nat} {t : Rec} (h : T[i]? = some t) (hn : i ∉ ch) : t.s' = t.s := by
  obtain ⟨o, ho, hr⟩ := p.at h
  rcases hr.cases with ⟨hd, hg, hop⟩ | ⟨hd, hg, hv, hs⟩
  · have e := hr.eo
    by_cases h1 : still E o = true
    · rw [hr.es]; exact (still_moves (s1 := s0) h1 hop).1
    · by_cases h2 : looker o = true
      · rw [hr.es]; exact looker_keeps h2 hop
      · exact eqL_get p.eqs i t h (by simpa using hn) (by rw [e]; simpa using h1) (by rw [e]; simpa using h2)
  · rw [hs, hr.es]

theorem take_succ {i : Nat} {t : Rec} (h : T[i]? = some t) : T.take (i + 1) = T.take i ++ [t] := by
  rw [List.take_add_one, h]; rfl

theorem Plan.state (p : Plan E ops ch fl un A0 s0 T) : ∀ i, i ≤ ops.length → ∀ k, k ≤ ch.length → (∀ (r j : Nat), ch[r]? = some j → (j < i ↔ r < k)) → sAfter s0 (T.take i) = stOf T ch s0 k := by
  intro i
  induction i with
  | zero =>
    intro _ k hk h
    cases k with
    | zero => rfl
    | succ k =>
      have := (h 0 ch[0] (by simp)).2 (by omega)
      omega
  | succ i ih =>
    intro hi k hk h
    have hlt : i < T.length := by rw [p.len]; omega
    have ht : T[i]? = some T[i] := by simp [hlt]
    rw [take_succ ht, sAfter_append]
    by_cases hc : i ∈ ch
    · obtain ⟨r, hr⟩ := List.getElem?_of_mem hc
      have h1 : r < k := (h r i hr).1 (by omega)
      have h2 : k = r + 1 := by
        rcases Nat.lt_or_ge (r + 1) k with h2 | h2
        · have h3 := (h (r + 1) ch[r + 1] (by simp)).2 h2
          have h4 := p.st.inc r (r + 1) i ch[r + 1] (by omega) hr (by simp)
          omega
        · omega
      subst h2
      simp [sAfter, stOf, nth_eq, hr, ht]
    · have h1 := ih (by omega) k hk fun r j hj => by
        have h2 := h r j hj
        have h3 : j ≠ i := fun e => hc (e ▸ List.mem_of_getElem? hj)
        rw [← h2]; omega
      have h4 := p.keeps ht hc
      obtain ⟨o, _, h5⟩ := p.at ht
      simp only [sAfter]
      rw [h4, h5.es, h1]

theorem Plan.stateAt (p : Plan E ops ch fl un A0 s0 T) {r j : Nat} (h : ch[r]? = some j) : sAfter s0 (T.take j) = stOf T ch s0 r := by
  refine p.state j (Nat.le_of_lt (p.st.lt j (List.mem_of_getElem? h))) r (Nat.le_of_lt (lt_len h)) fun r' j' h' => ?_
  rcases Nat.lt_trichotomy r' r with h1 | h1 | h1
  · have := p.st.inc r' r j' j h1 h' h; omega
  · subst h1; rw [h] at h'; injection h' with h'; omega
  · have := p.st.inc r r' j j' h1 h h'; omega

theorem Plan.stateEnd (p : Plan E ops ch fl un A0 s0 T) : sAfter s0 T = stOf T ch s0 ch.length := by
  have := p.state ops.length (Nat.le_refl _) ch.length (Nat.le_refl _) fun r j h => by
    have := p.st.lt j (List.mem_of_getElem? h)
    have := lt_len h
    omega
  rw [← p.len, List.take_length] at this
  exact this

theorem Plan.fr (p : Plan E ops ch fl un A0 s0 T) : ∀ i, i ≤ T.length →
    (∀ (j : Nat) t d, j < i → T[j]? = some t → t.o.dst = some d → (frAfter A0 (T.take i)).get d = some t.v) ∧
    (∀ d, (∀ (j : Nat) t, j < i → T[j]? = some t → t.o.dst ≠ some d) → (frAfter A0 (T.take i)).get d = A0.get d) := by
  intro i
  induction i with
  | zero => intro _; exact ⟨fun j t d h => by omega, fun d _ => rfl⟩
  | succ i ih =>
    intro hi
    have hlt : i < T.length := by omega
    have ht : T[i]? = some T[i] := by simp [hlt]
    obtain ⟨h1, h2⟩ := ih (by omega)
    rw [take_succ ht, frAfter_append]
    simp only [frAfter]
    refine ⟨fun j t d hj hjt hd => ?_, fun d hd => ?_⟩
    · by_cases e : j = i
      · subst e
        rw [ht] at hjt; injection hjt with hjt; subst hjt
        rw [hd, Fr.get_put_same]
      · have hji : j < i := by omega
        have h3 := h1 j t d hji hjt hd
        cases hdi : T[i].o.dst with
        | none => exact h3
        | some d' =>
          have hne : d' ≠ d := by
            rintro rfl
            obtain ⟨oj, ho, hrj⟩ := p.at hjt
            obtain ⟨oi, hoi, hri⟩ := p.at ht
            rw [hrj.eo] at hd
            rw [hri.eo] at hdi
            exact e (p.st.dst j i oj oi d' ho hoi hd hdi)
          rw [Fr.get_put_ne _ _ hne]; exact h3
    · have h3 := h2 d fun j t hj hjt => hd j t (by omega) hjt
      have h4 := hd i T[i] (by omega) ht
      cases hdi : T[i].o.dst with
      | none => exact h3
      | some d' =>
        have hne : d' ≠ d := fun e => h4 (by rw [hdi, e])
        rw [Fr.get_put_ne _ _ hne]; exact h3

/-! ### In the midst of any order -/
structure Sim (P : Program) (ops : List Oper) (ch fl : List Nat) (A0 : Fr) (s0 : LS) (T : List Rec) (c0 : Cx) (S : Nat → Prop) (a : Act) (k : Nat) (c : Cx) (A : Fr) (blk : Nat → Nat) : Prop where
  kle : k ≤ ch.length
  pre : ∀ (r j : Nat), r < k → ch[r]? = some j → S j
  es : c.s = stOf T ch s0 k
  rel : Rel P c
  res : ∀ id, c.R id → id < c0.s.next
  ext : Ext c0 ⟨c0.X, c.R, c.ι, c.s, c.w⟩
  X : ∀ x, c.X x ↔ c0.X x ∨ ∃ r j, k ≤ r ∧ ch[r]? = some j ∧ S j ∧ blk r = x
  pend : ∀ (r j : Nat), k ≤ r → ch[r]? = some j → S j → j ∈ fl ∧ c0.w.heap.size ≤ blk r ∧ ¬ c0.X (blk r) ∧
    ∃ t d v' cs ty, T[j]? = some t ∧ t.o.dst = some d ∧ a.tmps[d]? = some v' ∧ c.w.heap[blk r]? = some (.cells cs ty (0, 0)) ∧ Made P t.s t.s' t.v v' (blk r) cs ty
  inj : ∀ (r r' j j' : Nat), k ≤ r → k ≤ r' → ch[r]? = some j → S j → ch[r']? = some j' → S j' → blk r = blk r' → r = r'
  ar : AR P c A a
  An : A.n = A0.n
  act : ∀ (j : Nat) t d, S j → (∀ (r : Nat), ch[r]? = some j → r < k) → T[j]? = some t → t.o.dst = some d → A.get d = some t.v
  ina : ∀ d, (∀ (j : Nat) t, S j → (∀ (r : Nat), ch[r]? = some j → r < k) → T[j]? = some t → t.o.dst ≠ some d) → A.get d = A0.get d

theorem Ext.adopt0 {c0 c : Cx} {X : Nat → Prop} (h : Ext c0 ⟨X, c.R, c.ι, c.s, c.w⟩) {b K : Nat} {lo : LObj} (hb : c0.w.heap.size ≤ b) : Ext c0 ⟨X, c.R, (c.adopt b K lo).ι, c.s.alloc lo, c.w⟩ where
  X := h.X
  R := h.R
  next := Nat.le_succ_of_le h.next
  size := h.size
  box id v t hi hg := by
    have h0 : c0.s.next ≤ c.s.next := h.next
    have : id ≠ c.s.next := by omega
    simp [LS.alloc, this] at hg
    simpa [Cx.adopt, this] using h.box id v t hi hg
  row id es t g hi hg := by
    have h0 : c0.s.next ≤ c.s.next := h.next
    have : id ≠ c.s.next := by omega
    simp [LS.alloc, this] at hg
    simpa [Cx.adopt, this] using h.row id es t g hi hg
  mp id kv hi hg := by
    have h0 : c0.s.next ≤ c.s.next := h.next
    have : id ≠ c.s.next := by omega
    simp [LS.alloc, this] at hg
    simpa [Cx.adopt, this] using h.mp id kv hi hg
  zed x hx hl := by
    obtain ⟨id, o, h1, h2⟩ := hl
    by_cases e : id = c.s.next
    · subst e; simp [Cx.adopt] at h2; omega
    · simp [LS.alloc, Cx.adopt, e] at h1 h2
      exact h.zed x hx ⟨id, o, h1, h2⟩
  same := h.same
  os := h.os
  tape := h.tape
  output := h.output

variable {P : Program} {c0 : Cx} {S : Nat → Prop} {a : Act} {k : Nat} {c : Cx} {A : Fr} {blk : Nat → Nat}

theorem Sim.adopt (p : Plan E ops ch fl un A0 s0 T) (h : Sim P ops ch fl A0 s0 T c0 S a k c A blk) {j : Nat} (hj : ch[k]? = some j) (hS : S j) :
    ∃ c' A', c'.w = c.w ∧ Sim P ops ch fl A0 s0 T c0 S a (k + 1) c' A' blk := by
  obtain ⟨hfl, hb0, hbX, t, d, v', cs, ty, ht, hd, hv', hcs, ⟨lo, K, hs', hF, hV⟩⟩ := h.pend k j (Nat.le_refl _) hj hS
  obtain ⟨o, ho, hrec⟩ := p.at ht
  have hX : c.X (blk k) := (h.X _).2 (.inr ⟨k, j, Nat.le_refl _, hj, hS, rfl⟩)
  have hts : t.s = c.s := by rw [hrec.es, p.stateAt hj, h.es]
  have hE := Ext0.adopt h.rel (K := K) (lo := lo) hX
  have hR := h.rel.adopt hX hcs hF
  have hval : VR P (c.adopt (blk k) K lo) t.v v' := by
    rw [hts] at hV
    refine hV _ ⟨Nat.lt_succ_self _, fun hR' => ?_⟩ (by simp [Cx.adopt, LS.alloc]) (by simp [Cx.adopt])
    have := (h.rel.res _ hR').1
    omega
  have hdst : ∀ (j' : Nat) t' d', T[j']? = some t' → t'.o.dst = some d' → d' = d → j' = j := fun j' t' d' ht' hd' e => by
    obtain ⟨o', ho', hrec'⟩ := p.at ht'
    rw [hrec'.eo] at hd'
    rw [hrec.eo] at hd
    exact p.st.dst j' j o' o d ho' ho (e ▸ hd') hd
  refine ⟨c.adopt (blk k) K lo, A.put (some d) t.v, rfl, ?_, ?_, ?_, hR, h.res, Ext.adopt0 h.ext hb0, ?_, ?_, ?_, ?_, ?_, ?_, ?_⟩
  · exact lt_len hj
  · intro r j' hr hj'
    rcases Nat.lt_succ_iff_lt_or_eq.1 hr with hr | hr
    · exact h.pre r j' hr hj'
    · subst hr; rw [hj] at hj'; injection hj' with hj'; exact hj' ▸ hS
  · show c.s.alloc lo = _
    simp only [stOf, nth_eq, hj, ht]
    rw [hs', hts]
  · intro x
    constructor
    · rintro ⟨hx, hxb⟩
      rcases (h.X x).1 hx with hx | ⟨r, j', hr, hj', hS', hb⟩
      · exact .inl hx
      · refine .inr ⟨r, j', ?_, hj', hS', hb⟩
        rcases Nat.eq_or_lt_of_le hr with hr | hr
        · subst hr; exact absurd hb.symm hxb
        · exact hr
    · rintro (hx | ⟨r, j', hr, hj', hS', hb⟩)
      · exact ⟨(h.X x).2 (.inl hx), fun e => hbX (e ▸ hx)⟩
      · refine ⟨(h.X x).2 (.inr ⟨r, j', by omega, hj', hS', hb⟩), fun e => ?_⟩
        have := h.inj r k j' j (by omega) (Nat.le_refl _) hj' hS' hj hS (by rw [hb, e])
        omega
  · intro r j' hr hj' hS'
    exact h.pend r j' (by omega) hj' hS'
  · intro r r' j1 j2 hr hr'
    exact h.inj r r' j1 j2 (by omega) (by omega)
  · refine ⟨by rw [Fr.put_n]; exact h.ar.size, h.ar.defers, fun d' v hv => ?_⟩
    by_cases e : d = d'
    · subst e
      rw [Fr.get_put_same] at hv
      injection hv with hv; subst hv
      exact ⟨v', hv', hval⟩
    · rw [Fr.get_put_ne _ _ e] at hv
      obtain ⟨u, h1, h2⟩ := h.ar.get d' v hv
      exact ⟨u, h1, h2.move hE⟩
  · rw [Fr.put_n]; exact h.An
  · intro j' t' d' hS' hr' ht' hd'
    by_cases e : d' = d
    · have := hdst j' t' d' ht' hd' e
      subst this
      rw [ht] at ht'; injection ht' with ht'; subst ht'
      subst e
      exact Fr.get_put_same _ _ _
    · rw [Fr.get_put_ne _ _ (fun x => e x.symm)]
      refine h.act j' t' d' hS' (fun r hr => ?_) ht' hd'
      have h1 := hr' r hr
      rcases Nat.lt_succ_iff_lt_or_eq.1 h1 with h1 | h1
      · exact h1
      · subst h1
        rw [hj] at hr; injection hr with hr; subst hr
        rw [ht] at ht'; injection ht' with ht'; subst ht'
        rw [hd] at hd'; injection hd' with hd'
        exact absurd hd'.symm e
  · intro d' hd'
    have hne : d ≠ d' := by
      rintro rfl
      refine hd' j t hS (fun r hr => ?_) ht hd
      have h1 : r = k := by
        rcases Nat.lt_trichotomy r k with h2 | h2 | h2
        · have := p.st.inc r k j j h2 hr hj; omega
        · exact h2
        · have := p.st.inc k r j j h2 hj hr; omega
      omega
    rw [Fr.get_put_ne _ _ hne]
    refine h.ina d' fun j' t' hS' hr' ht' => hd' j' t' hS' (fun r hr => ?_) ht'
    have := hr' r hr
    omega

/-- The chain is as far as it can be. -/
theorem Sim.far (p : Plan E ops ch fl un A0 s0 T) (hdec : ∀ j, Decidable (S j)) : ∀ (m k : Nat) (c : Cx) (A : Fr), ch.length - k ≤ m → Sim P ops ch fl A0 s0 T c0 S a k c A blk →
    ∃ k' c' A', c'.w = c.w ∧ Sim P ops ch fl A0 s0 T c0 S a k' c' A' blk ∧ ∀ j, ch[k']? = some j → ¬ S j := by
  intro m
  induction m with
  | zero =>
    intro k c A hm h
    refine ⟨k, c, A, rfl, h, fun j hj => ?_⟩
    have := lt_len hj
    omega
  | succ m ih =>
    intro k c A hm h
    cases hj : ch[k]? with
    | none => exact ⟨k, c, A, rfl, h, fun j hj' => by rw [hj] at hj'; cases hj'⟩
    | some j =>
      by_cases hS : S j
      · obtain ⟨c', A', hw, h'⟩ := h.adopt p hj hS
        obtain ⟨k', c2, A2, hw2, h2, h3⟩ := ih (k + 1) c' A' (by omega) h'
        exact ⟨k', c2, A2, hw2.trans hw, h2, h3⟩
      · exact ⟨k, c, A, rfl, h, fun j' hj' => by rw [hj] at hj'; injection hj' with hj'; exact hj' ▸ hS⟩

end
end Den
/- Den, part 19: a region whose order is drawn: each step, and the whole. -/
set_option linter.unusedSimpArgs false
set_option linter.unusedVariables false
namespace Den
open Go

section
variable {E : Env} {ops : List Oper} {ch fl : List Nat} {un : List (Nat × Nat)} {A0 : Fr} {s0 : LS} {T : List Rec}
variable {P : Program} {c0 : Cx} {S S' : Nat → Prop} {a : Act} {k : Nat} {c : Cx} {A : Fr} {blk : Nat → Nat}

theorem Ext.reX {c c' : Cx} (h : Ext c c') (X : Nat → Prop) : Ext ⟨X, c.R, c.ι, c.s, c.w⟩ ⟨X, c'.R, c'.ι, c'.s, c'.w⟩ :=
  ⟨rfl, h.R, h.next, h.size, h.box, h.row, h.mp, h.zed, h.same, h.os, h.tape, h.output⟩

theorem tmps_put_ne {a : Act} {o : Option Nat} {d : Nat} {v : Value} (h : o ≠ some d) : (a.put o v).tmps[d]? = a.tmps[d]? := by
  cases o with
  | none => rfl
  | some d' =>
    have : d' ≠ d := fun e => h (by rw [e])
    simp [Act.put, this]

/-- An operation is carried out, or passed by, where the chain stands. -/
theorem Sim.fire (p : Plan E ops ch fl un A0 s0 T) (h : Sim P ops ch fl A0 s0 T c0 S a k c A blk) {i : Nat} (hS' : ∀ j, S' j ↔ S j ∨ j = i) (hi : ¬ S i) {t : Rec} (ht : T[i]? = some t) {k' : Nat}
    (hk : (i ∉ ch ∧ k' = k) ∨ (ch[k]? = some i ∧ k' = k + 1)) {ι' : Nat → Nat × Nat} {w' : World} {v' : Value} (hdn : ∀ d, t.o.dst = some d → d < A.n)
    (hR : Rel P ⟨c.X, c.R, ι', stOf T ch s0 k', w'⟩) (hE : Ext c ⟨c.X, c.R, ι', stOf T ch s0 k', w'⟩) (hv : VR P ⟨c.X, c.R, ι', stOf T ch s0 k', w'⟩ t.v v') :
    Sim P ops ch fl A0 s0 T c0 S' (a.put t.o.dst v') k' ⟨c.X, c.R, ι', stOf T ch s0 k', w'⟩ (A.put t.o.dst t.v) blk := by
  have hkk : k ≤ k' := by rcases hk with ⟨_, h⟩ | ⟨_, h⟩ <;> omega
  have hdst : ∀ (j' : Nat) t' d d', T[j']? = some t' → t.o.dst = some d → t'.o.dst = some d' → d' = d → j' = i := fun j' t' d d' ht' hd hd' e => by
    obtain ⟨o', ho', hrec'⟩ := p.at ht'
    obtain ⟨o, ho, hrec⟩ := p.at ht
    rw [hrec'.eo] at hd'
    rw [hrec.eo] at hd
    exact p.st.dst j' i o' o d ho' ho (e ▸ hd') hd
  have hfar : ∀ (r j : Nat), k' ≤ r → ch[r]? = some j → S' j → S j := fun r j hr hj hs => by
    rcases (hS' j).1 hs with hs | rfl
    · exact hs
    · rcases hk with ⟨h1, _⟩ | ⟨h1, h2⟩
      · exact absurd (List.mem_of_getElem? hj) h1
      · have := p.st.inc k r j j (by omega) h1 hj
        omega
  have hpre : ∀ (j : Nat), (∀ (r : Nat), ch[r]? = some j → r < k') → j ≠ i → ∀ (r : Nat), ch[r]? = some j → r < k := fun j hr hji r hrj => by
    have h1 := hr r hrj
    rcases hk with ⟨h2, h3⟩ | ⟨h2, h3⟩
    · omega
    · rcases Nat.lt_or_ge r k with h4 | h4
      · exact h4
      · have : r = k := by omega
        subst this
        rw [h2] at hrj; injection hrj with hrj; exact absurd hrj.symm hji
  refine ⟨?_, ?_, rfl, hR, h.res, h.ext.trans (hE.reX c0.X), ?_, ?_, ?_, ?_, ?_, ?_, ?_⟩
  · rcases hk with ⟨_, h1⟩ | ⟨h1, h2⟩
    · rw [h1]; exact h.kle
    · rw [h2]; exact lt_len h1
  · intro r j hr hj
    rcases hk with ⟨_, h1⟩ | ⟨h1, h2⟩
    · exact (hS' j).2 (.inl (h.pre r j (by omega) hj))
    · rcases Nat.lt_or_ge r k with h3 | h3
      · exact (hS' j).2 (.inl (h.pre r j h3 hj))
      · have : r = k := by omega
        subst this
        rw [h1] at hj; injection hj with hj
        exact (hS' j).2 (.inr hj.symm)
  · intro x
    constructor
    · intro hx
      rcases (h.X x).1 hx with hx | ⟨r, j, hr, hj, hs, hb⟩
      · exact .inl hx
      · refine .inr ⟨r, j, ?_, hj, (hS' j).2 (.inl hs), hb⟩
        rcases hk with ⟨_, h1⟩ | ⟨h1, h2⟩
        · omega
        · rcases Nat.lt_or_ge r k' with h3 | h3
          · have : r = k := by omega
            subst this
            rw [h1] at hj; injection hj with hj; subst hj
            exact absurd hs hi
          · exact h3
    · rintro (hx | ⟨r, j, hr, hj, hs, hb⟩)
      · exact (h.X x).2 (.inl hx)
      · exact (h.X x).2 (.inr ⟨r, j, by omega, hj, hfar r j hr hj hs, hb⟩)
  · intro r j hr hj hs
    have hs0 := hfar r j hr hj hs
    obtain ⟨hfl, hb0, hbX, t', d, u', cs, ty, ht', hd, hu', hcs, hM⟩ := h.pend r j (by omega) hj hs0
    have hX : c.X (blk r) := (h.X _).2 (.inr ⟨r, j, by omega, hj, hs0, rfl⟩)
    refine ⟨hfl, hb0, hbX, t', d, u', cs, ty, ht', hd, ?_, ?_, hM⟩
    · rw [tmps_put_ne]
      · exact hu'
      · intro hd'
        have := hdst j t' d d ht' hd' hd rfl
        subst this
        exact hi hs0
    · show w'.heap[blk r]? = _
      rw [hE.same (blk r) (h.rel.xlt _ hX) (h.rel.dis _ hX)]
      exact hcs
  · intro r r' j j' hr hr' hj hs hj' hs'
    exact h.inj r r' j j' (by omega) (by omega) hj (hfar r j hr hj hs) hj' (hfar r' j' hr' hj' hs')
  · exact (h.ar.mono hE).put t.o.dst t.v v' hdn hv
  · rw [Fr.put_n]; exact h.An
  · intro j t' d' hs hr ht' hd'
    by_cases e : j = i
    · subst e
      rw [ht] at ht'; injection ht' with ht'; subst ht'
      rw [hd', Fr.get_put_same]
    · have hs0 : S j := ((hS' j).1 hs).resolve_right e
      have h1 := h.act j t' d' hs0 (hpre j hr e) ht' hd'
      cases hd : t.o.dst with
      | none => exact h1
      | some d =>
        rw [Fr.get_put_ne]
        · exact h1
        · rintro rfl
          exact e (hdst j t' d d ht' hd hd' rfl)
  · intro d' hd'
    have hii : t.o.dst ≠ some d' := by
      refine hd' i t ((hS' i).2 (.inr rfl)) (fun r hr => ?_) ht
      rcases hk with ⟨h1, _⟩ | ⟨h1, h2⟩
      · exact absurd (List.mem_of_getElem? hr) h1
      · rcases Nat.lt_trichotomy r k with h3 | h3 | h3
        · omega
        · omega
        · have := p.st.inc k r i i h3 h1 hr; omega
    have h1 := h.ina d' fun j t' hs hr ht' => hd' j t' ((hS' j).2 (.inl hs)) (fun r hrj => by have := hr r hrj; omega) ht'
    cases hd : t.o.dst with
    | none => exact h1
    | some d =>
      rw [Fr.get_put_ne]
      · exact h1
      · rintro rfl; exact hii hd

/-- An operation floats: what it makes is set aside. -/
theorem Sim.float (p : Plan E ops ch fl un A0 s0 T) (h : Sim P ops ch fl A0 s0 T c0 S a k c A blk) {i q : Nat} (hS' : ∀ j, S' j ↔ S j ∨ j = i) (hi : ¬ S i) {t : Rec} (ht : T[i]? = some t)
    (hq : ch[q]? = some i) (hkq : k ≤ q) (hf : i ∈ fl) {d : Nat} (hd : t.o.dst = some d) (hdn : d < A.n) {v' : Value} {cs : Array Value} {ty : TypeId}
    (hM : Made P t.s t.s' t.v v' c.w.heap.size cs ty) :
    ∃ c', c'.w = c.w.alloc (.cells cs ty) ∧ Sim P ops ch fl A0 s0 T c0 S' (a.put (some d) v') k c' A (fun r => if r = q then c.w.heap.size else blk r) := by
  have huniq : ∀ (r : Nat), ch[r]? = some i → r = q := fun r hr => by
    rcases Nat.lt_trichotomy r q with h1 | h1 | h1
    · have := p.st.inc r q i i h1 hr hq; omega
    · exact h1
    · have := p.st.inc q r i i h1 hq hr; omega
  have hne : ∀ (r j : Nat), ch[r]? = some j → S j → r ≠ q := fun r j hr hs e => by
    subst e; rw [hq] at hr; injection hr with hr; subst hr; exact hi hs
  have hdst : ∀ (j' : Nat) t' d', T[j']? = some t' → t'.o.dst = some d' → d' = d → j' = i := fun j' t' d' ht' hd' e => by
    obtain ⟨o', ho', hrec'⟩ := p.at ht'
    obtain ⟨o, ho, hrec⟩ := p.at ht
    rw [hrec'.eo] at hd'
    rw [hrec.eo] at hd
    exact p.st.dst j' i o' o d ho' ho (e ▸ hd') hd
  obtain ⟨o, ho, hrec⟩ := p.at ht
  have hbare : A.get d = none := by
    rw [h.ina d ?_]
    · exact p.bare i o d hf ho (by rw [← hrec.eo]; exact hd)
    · intro j t' hs hr ht' hd'
      have := hdst j t' d ht' hd' rfl
      subst this
      exact hi hs
  have hE := Ext0.aside h.rel (.cells cs ty)
  have hsz : c0.w.heap.size ≤ c.w.heap.size := h.ext.size
  have hXn : ∀ x, c.X x → x ≠ c.w.heap.size := fun x hx e => by have := h.rel.xlt x hx; omega
  refine ⟨c.aside (.cells cs ty), rfl, h.kle, ?_, h.es, h.rel.aside _, h.res, h.ext.trans ((Ext.junk (c := ⟨c0.X, c.R, c.ι, c.s, c.w⟩) (.cells cs ty))), ?_, ?_, ?_, ?_, h.An, ?_, ?_⟩
  · intro r j hr hj; exact (hS' j).2 (.inl (h.pre r j hr hj))
  · intro x
    constructor
    · rintro (hx | hx)
      · rcases (h.X x).1 hx with hx | ⟨r, j, hr, hj, hs, hb⟩
        · exact .inl hx
        · exact .inr ⟨r, j, hr, hj, (hS' j).2 (.inl hs), by rw [if_neg (hne r j hj hs)]; exact hb⟩
      · exact .inr ⟨q, i, hkq, hq, (hS' i).2 (.inr rfl), by rw [if_pos rfl]; exact hx.symm⟩
    · rintro (hx | ⟨r, j, hr, hj, hs, hb⟩)
      · exact .inl ((h.X x).2 (.inl hx))
      · rcases (hS' j).1 hs with hs | rfl
        · rw [if_neg (hne r j hj hs)] at hb
          exact .inl ((h.X x).2 (.inr ⟨r, j, hr, hj, hs, hb⟩))
        · have := huniq r hj
          subst this
          rw [if_pos rfl] at hb
          exact .inr hb.symm
  · intro r j hr hj hs
    rcases (hS' j).1 hs with hs | rfl
    · rw [if_neg (hne r j hj hs)]
      obtain ⟨hfl, hb0, hbX, t', d', u', cs', ty', ht', hd', hu', hcs', hM'⟩ := h.pend r j hr hj hs
      have hX : c.X (blk r) := (h.X _).2 (.inr ⟨r, j, hr, hj, hs, rfl⟩)
      refine ⟨hfl, hb0, hbX, t', d', u', cs', ty', ht', hd', ?_, ?_, hM'⟩
      · rw [tmps_put_ne]
        · exact hu'
        · intro e
          injection e with e
          have := hdst j t' d' ht' hd' e.symm
          subst this
          exact hi hs
      · show (c.w.alloc _).heap[blk r]? = _
        rw [alloc_old _ _ _ (h.rel.xlt _ hX)]
        exact hcs'
    · have := huniq r hj
      subst this
      rw [if_pos rfl]
      refine ⟨hf, hsz, fun hx => ?_, t, d, v', cs, ty, ht, hd, ?_, alloc_new _ _, hM⟩
      · exact hXn _ ((h.X _).2 (.inl hx)) rfl
      · have := h.ar.size
        simp [Act.put, Array.getElem?_setIfInBounds]
        omega
  · intro r r' j j' hr hr' hj hs hj' hs'
    rcases (hS' j).1 hs with hs | rfl <;> rcases (hS' j').1 hs' with hs' | rfl
    · rw [if_neg (hne r j hj hs), if_neg (hne r' j' hj' hs')]
      exact h.inj r r' j j' hr hr' hj hs hj' hs'
    · have := huniq r' hj'
      subst this
      rw [if_neg (hne r j hj hs), if_pos rfl]
      intro e
      exact absurd e (hXn _ ((h.X _).2 (.inr ⟨r, j, hr, hj, hs, rfl⟩)))
    · have := huniq r hj
      subst this
      rw [if_neg (hne r' j' hj' hs'), if_pos rfl]
      intro e
      exact absurd e.symm (hXn _ ((h.X _).2 (.inr ⟨r', j', hr', hj', hs', rfl⟩)))
    · intro _; rw [huniq r hj, huniq r' hj']
  · refine ⟨by simp [Act.put]; exact h.ar.size, h.ar.defers, fun d' v hv => ?_⟩
    have hdd : d ≠ d' := by rintro rfl; rw [hbare] at hv; cases hv
    obtain ⟨u, h1, h2⟩ := h.ar.get d' v hv
    exact ⟨u, by rw [tmps_put_ne (fun e => hdd (by injection e))]; exact h1, h2.move hE⟩
  · intro j t' d' hs hr ht' hd'
    rcases (hS' j).1 hs with hs | rfl
    · exact h.act j t' d' hs hr ht' hd'
    · have := hr q hq; omega
  · intro d' hd'
    refine h.ina d' fun j t' hs hr ht' => hd' j t' ((hS' j).2 (.inl hs)) hr ht'

theorem guardL_congr {A B : Fr} {o : Oper} {X Y : Prop} (h : ∀ g, g ∈ o.looksAt ops.toArray → A.get g = B.get g) : guardL ops A o.guard X Y = guardL ops B o.guard X Y := by
  unfold guardL
  cases hg : o.guard with
  | none => rfl
  | some p =>
    obtain ⟨j, want⟩ := p
    simp only
    cases h1 : nth ops j with
    | none => rfl
    | some oj =>
      simp only
      cases h2 : oj.dst with
      | none => rfl
      | some d =>
        simp only
        rw [h d]
        rw [nth_eq] at h1
        simp [Oper.looksAt, hg, h1, h2]

theorem ev_congr {A B : Fr} {o : Oper} (h : ∀ g, g ∈ o.looksAt ops.toArray → A.get g = B.get g) : ∀ x ∈ o.op.operands, ev A x = ev B x := by
  intro x hx
  cases x with
  | tmp t =>
    refine h t ?_
    unfold Oper.looksAt
    refine List.mem_append_left _ (List.mem_filterMap.2 ⟨.tmp t, by simpa using hx, rfl⟩)
  | _ => rfl

/-- What an operation looks at is as it was in the order of the text. -/
theorem Sim.looks (p : Plan E ops ch fl un A0 s0 T) (h : Sim P ops ch fl A0 s0 T c0 S a k c A blk)
    (hcl : ∀ i o, ops[i]? = some o → S i → ∀ e ∈ o.after, Region.binds .any e = true → S e.on)
    {i : Nat} {o : Oper} (ho : ops[i]? = some o) (hi : ¬ S i) (hr : ∀ e ∈ o.after, Region.binds .any e = true → S e.on)
    (hact : ∀ (j r : Nat) oj d, ops[j]? = some oj → oj.dst = some d → d ∈ o.looksAt ops.toArray → S j → ahead (bels ops []) i j = true → j < i → ch[r]? = some j → r < k) :
    ∀ g, g ∈ o.looksAt ops.toArray → A.get g = (frAfter A0 (T.take i)).get g := by
  intro g hg
  have hiT : i < T.length := by rw [p.len]; exact lt_len ho
  obtain ⟨f1, f2⟩ := p.fr i (Nat.le_of_lt hiT)
  by_cases hw : ∃ (j : Nat) (oj : Oper), ops[j]? = some oj ∧ oj.dst = some g
  · obtain ⟨j, oj, hj, hd⟩ := hw
    obtain ⟨t, ht, hrec⟩ := p.recs j oj hj
    have hd' : t.o.dst = some g := by rw [hrec.eo]; exact hd
    have none : (∀ e, e = j → ¬ S e) → ¬ j < i → A.get g = (frAfter A0 (T.take i)).get g := by
      intro h1 h2
      rw [h.ina g, f2 g]
      · intro j' t' hj' ht' hd2
        obtain ⟨o', ho', hrec'⟩ := p.at ht'
        rw [hrec'.eo] at hd2
        have := p.st.dst j' j o' oj g ho' hj hd2 hd
        omega
      · intro j' t' hs _ ht' hd2
        obtain ⟨o', ho', hrec'⟩ := p.at ht'
        rw [hrec'.eo] at hd2
        have := p.st.dst j' j o' oj g ho' hj hd2 hd
        exact h1 j' this hs
    rcases p.st.opnd i j o oj g ho hj hd hg with ⟨h1, h2⟩ | h1 | h1
    · have hs : S j := (ahead_pre h1).ready hcl ho hr
      rw [h.act j t g hs (fun r hrj => hact j r oj g hj hd hg hs h1 h2 hrj) ht hd', f1 j t g h2 ht hd']
    · subst h1
      exact none (fun e he => he ▸ hi) (by omega)
    · refine none (fun e he hs => hi ((ahead_pre h1).closed hcl (he ▸ hs))) fun hlt => ?_
      -- the text's order is one of them
      have hback : ∀ x y, Pre ops x y → y < x := by
        intro x y hp
        induction hp with
        | edge x o e h1 h2 h3 => exact p.st.edge x o h1 e h2 h3
        | step x o e y h1 h2 h3 hp ih => have := p.st.edge x o h1 e h2 h3; omega
      have := hback j i (ahead_pre h1)
      omega
  · rw [h.ina g, f2 g]
    · intro j t hj ht hd
      obtain ⟨o', ho', hrec'⟩ := p.at ht
      rw [hrec'.eo] at hd
      exact hw ⟨j, o', ho', hd⟩
    · intro j t _ _ ht hd
      obtain ⟨o', ho', hrec'⟩ := p.at ht
      rw [hrec'.eo] at hd
      exact hw ⟨j, o', ho', hd⟩

end
end Den
/- Den, part 20: a region whose order is drawn: the rule. -/
set_option linter.unusedSimpArgs false
set_option linter.unusedVariables false
namespace Den
open Go

/-- A frame without some names. -/
def wipeL (ds : List Nat) : List (Nat × LV) → List (Nat × LV)
  | [] => []
  | (k, v) :: r => match ds.contains k with
    | true => wipeL ds r
    | false => (k, v) :: wipeL ds r

def Fr.wipe (A : Fr) (ops : List Oper) (fl : List Nat) : Fr := match fl with
  | [] => A
  | f :: r => ⟨A.n, wipeL ((f :: r).filterMap fun i => match nth ops i with | some o => o.dst | none => none) A.l⟩

theorem look_wipe (ds : List Nat) (t : Nat) : ∀ (l : List (Nat × LV)), look t (wipeL ds l) = if ds.contains t = true then none else look t l
  | [] => by simp [wipeL, look]
  | (k, v) :: r => by
    have ih := look_wipe ds t r
    simp only [wipeL]
    by_cases e : k = t
    · subst e
      cases hc : ds.contains k with
      | true => simp only [hc] at ih; simpa [hc] using ih
      | false => simp [look, hc]
    · have hb : Nat.beq k t = false := by
        cases hb : Nat.beq k t with
        | false => rfl
        | true => exact absurd (Nat.eq_of_beq_eq_true hb) e
      cases hc : ds.contains k with
      | true => simp only [ih, look, hb, cond_false]
      | false => simp only [look, hb, cond_false, ih]

theorem Fr.wipe_get {A : Fr} {ops : List Oper} {fl : List Nat} {t : Nat} {v : LV} (h : (A.wipe ops fl).get t = some v) : A.get t = some v := by
  unfold Fr.wipe at h
  split at h
  · exact h
  · unfold Fr.get at h ⊢
    rw [look_wipe] at h
    split at h
    · cases h
    · exact h

theorem Fr.wipe_bare {A : Fr} {ops : List Oper} {fl : List Nat} {f d : Nat} {o : Oper} (hf : f ∈ fl) (ho : ops[f]? = some o) (hd : o.dst = some d) : (A.wipe ops fl).get d = none := by
  unfold Fr.wipe
  split
  · simp at hf
  · unfold Fr.get
    rw [look_wipe, if_pos]
    rw [List.contains_iff_mem]
    refine List.mem_filterMap.2 ⟨f, hf, ?_⟩
    rw [nth_eq, ho]
    exact hd

theorem Fr.wipe_n (A : Fr) (ops : List Oper) (fl : List Nat) : (A.wipe ops fl).n = A.n := by
  unfold Fr.wipe; split <;> rfl

section
variable {P : Program} {E : Env}

theorem Inv.wipe {c0 c : Cx} {A : Fr} {a : Act} (h : Inv P c0 c A a) (ops : List Oper) (fl : List Nat) : Inv P c0 c (A.wipe ops fl) a :=
  ⟨h.rel, ⟨by rw [Fr.wipe_n]; exact h.ar.size, h.ar.defers, fun t v hv => h.ar.get t v (Fr.wipe_get hv)⟩, h.ext, h.res⟩

theorem Ext.drew (c : Cx) (w' : World) (h0 : w'.heap = c.w.heap) (h1 : w'.os = c.w.os) (h2 : w'.tape = c.w.tape) (h3 : w'.output = c.w.output) : Ext c ⟨c.X, c.R, c.ι, c.s, w'⟩ where
  X := rfl
  R := rfl
  next := Nat.le_refl _
  size := by rw [h0]; exact Nat.le_refl _
  box _ v _ _ h := ⟨rfl, v, h⟩
  row _ es _ g _ h := ⟨es, g, h, Nat.le_refl _, .inl rfl, id⟩
  mp _ kv _ h := ⟨rfl, kv, h⟩
  zed _ _ h := h
  same _ _ _ := by rw [h0]
  os := h1
  tape := h2
  output := h3

theorem Rel.drew {c : Cx} (hr : Rel P c) (w' : World) (h0 : w'.heap = c.w.heap) (h1 : w'.os = c.w.os) (h2 : w'.tape = c.w.tape) (h3 : w'.output = c.w.output) : Rel P ⟨c.X, c.R, c.ι, c.s, w'⟩ := by
  have hE := Ext.drew c w' h0 h1 h2 h3
  refine ⟨hr.lt, hr.res, fun id o h => Nat.lt_of_lt_of_le (hr.blt id o h) hE.size, hr.inj, hr.dis, fun b h => Nat.lt_of_lt_of_le (hr.xlt b h) hE.size, ?_, ?_, ?_⟩
  · intro id v t h
    obtain ⟨cs, h1, h2, h3⟩ := hr.box id v t h
    exact ⟨cs, by show w'.heap[_]? = _; rw [h0]; exact h1, h2, fun j x x' hx hx' => (h3 j x x' hx hx').mono hE⟩
  · intro id es t g h
    obtain ⟨cs, h1, h2, h3, h4, h5⟩ := hr.row id es t g h
    exact ⟨cs, by show w'.heap[_]? = _; rw [h0]; exact h1, h2, h3, h4, fun i e j x x' he hx hx' => (h5 i e j x x' he hx hx').mono hE⟩
  · intro id kv h
    obtain ⟨es, cl, h1, h2, h3⟩ := hr.mp id kv h
    exact ⟨es, cl, by show w'.heap[_]? = _; rw [h0]; exact h1, h2, fun i p e hp he => by
      obtain ⟨h4, h5, h6⟩ := h3 i p e hp he
      exact ⟨h4.mono hE, h5.mono hE, h6⟩⟩

theorem Inv.drew {c0 c : Cx} {A : Fr} {a : Act} (h : Inv P c0 c A a) (w' : World) (h0 : w'.heap = c.w.heap) (h1 : w'.os = c.w.os) (h2 : w'.tape = c.w.tape) (h3 : w'.output = c.w.output) : Inv P c0 ⟨c.X, c.R, c.ι, c.s, w'⟩ A a :=
  ⟨h.rel.drew w' h0 h1 h2 h3, h.ar.mono (Ext.drew c w' h0 h1 h2 h3), h.ext.trans (Ext.drew c w' h0 h1 h2 h3), h.res⟩

variable {ops : Array Oper} {ch fl : List Nat} {un : List (Nat × Nat)} {A0 : Fr} {s0 : LS} {T : List Rec} {c0 : Cx}

/-- Which operations are listed. -/
def Lst (l : Array Bool) (i : Nat) : Prop := l.getD i false = true
def unl (l : Array Bool) : Nat := l.toList.countP (fun b => !b)

theorem Lst.set {l : Array Bool} {i : Nat} (hi : i < l.size) (j : Nat) : Lst (l.setIfInBounds i true) j ↔ Lst l j ∨ j = i := by
  unfold Lst
  by_cases e : i = j
  · subst e; simp [hi]
  · simp [Array.getElem?_setIfInBounds_ne e, Ne.symm e]

theorem unl_set {l : Array Bool} {i : Nat} (hi : i < l.size) (hn : ¬ Lst l i) {fuel : Nat} (h : unl l ≤ fuel + 1) : unl (l.setIfInBounds i true) ≤ fuel := by
  unfold unl at *
  rw [Array.toList_setIfInBounds, List.countP_set (by simpa using hi)]
  have hf : l.toList[i]'(by simpa using hi) = false := by
    unfold Lst at hn
    simp [hi] at hn
    simpa using hn
  rw [hf]
  have hpos : 0 < l.toList.countP (fun b => !b) := List.countP_pos_iff.2 ⟨_, List.getElem_mem (by simpa using hi : i < l.toList.length), by rw [hf]; rfl⟩
  simp only [Bool.not_false, if_true, Bool.not_true, Bool.false_eq_true, if_false]
  omega

theorem unl_zero {l : Array Bool} (h : unl l = 0) (i : Nat) (hi : i < l.size) : Lst l i := by
  unfold unl at h
  rw [List.countP_eq_zero] at h
  have := h (l.toList[i]'(by simpa using hi)) (List.getElem_mem _)
  unfold Lst
  simp [hi] at this ⊢
  exact this

theorem draw_main (hE : EnvOk P E) (p : Plan E ops.toList ch fl un A0 s0 T) {Q : Exit → Act → World → Prop}
    (hQ : ∀ c A a, Sim P ops.toList ch fl A0 s0 T c0 (fun i => i < ops.size) a ch.length c A (fun _ => 0) → Q .normal a c.w) :
    ∀ (fuel : Nat) (l : Array Bool) (a : Act) (w : World), l.size = ops.size → unl l ≤ fuel → (∀ i o, ops.toList[i]? = some o → Lst l i → ∀ e ∈ o.after, Region.binds .any e = true → Lst l e.on) →
      (∃ k c A blk, c.w = w ∧ Sim P ops.toList ch fl A0 s0 T c0 (Lst l) a k c A blk) → wpAny P .any ops Q fuel l a w := by
  have hmem : ∀ (l : Array Bool), l.size = ops.size → ∀ i o, ops.toList[i]? = some o → ¬ Lst l i → (∀ e ∈ o.after, Region.binds .any e = true → Lst l e.on) → i ∈ Region.ready .any ops l := by
    intro l hl i o ho hn hr
    have hi : i < l.size := by rw [hl]; have := lt_len ho; simpa using this
    refine mem_ready.2 ⟨?_, o, by simpa using ho, hr⟩
    unfold Lst at hn
    simp [hi] at hn ⊢
    exact hn
  have hall : ∀ (l : Array Bool), l.size = ops.size → Region.ready .any ops l = [] → ∀ i, i < ops.size → Lst l i := by
    intro l hl hnil i
    induction i using Nat.strongRecOn with
    | _ i ih =>
      intro hi
      apply Classical.byContradiction
      intro hn
      have ho : ops.toList[i]? = some ops[i] := by simp [hi]
      have := hmem l hl i _ ho hn fun e he hb => by
        have := p.st.edge i _ ho e he hb
        exact ih e.on this (by omega)
      rw [hnil] at this
      cases this
  have hend : ∀ (l : Array Bool) (a : Act) (w : World), (∀ i, i < ops.size → Lst l i) → l.size = ops.size → (∃ k c A blk, c.w = w ∧ Sim P ops.toList ch fl A0 s0 T c0 (Lst l) a k c A blk) → Q .normal a w := by
    rintro l a w hl hsz ⟨k, c, A, blk, rfl, h⟩
    obtain ⟨k', c', A', hw, h', hfar⟩ := h.far p (fun j => inferInstanceAs (Decidable (_ = true))) _ k c A (Nat.le_refl _)
    have hk : k' = ch.length := by
      rcases Nat.lt_or_ge k' ch.length with h1 | h1
      · have hj : ch[k']? = some ch[k'] := by simp [h1]
        have := p.st.lt _ (List.mem_of_getElem? hj)
        exact absurd (hl _ (by simpa using this)) (hfar _ hj)
      · have := h'.kle; omega
    subst hk
    rw [← hw]
    have hSS : ∀ j, Lst l j ↔ j < ops.size := fun j => ⟨fun h => by
      rcases Nat.lt_or_ge j ops.size with h1 | h1
      · exact h1
      · unfold Lst at h; simp [show ¬ j < l.size by omega] at h, hl j⟩
    refine hQ c' A' a ⟨h'.kle, fun r j hr hj => (hSS j).1 (h'.pre r j hr hj), h'.es, h'.rel, h'.res, h'.ext, ?_, ?_, ?_, h'.ar, h'.An, ?_, ?_⟩
    · intro x
      rw [h'.X x]
      constructor
      · rintro (h | ⟨r, j, hr, hj, _⟩)
        · exact .inl h
        · have := lt_len hj; omega
      · rintro (h | ⟨r, j, hr, hj, _⟩)
        · exact .inl h
        · have := lt_len hj; omega
    · intro r j hr hj; have := lt_len hj; omega
    · intro r r' j j' hr _ hj; have := lt_len hj; omega
    · intro j t d hs hr ht hd; exact h'.act j t d ((hSS j).2 hs) hr ht hd
    · intro d hd; exact h'.ina d fun j t hs hr ht => hd j t ((hSS j).1 hs) hr ht
  intro fuel
  induction fuel with
  | zero =>
    intro l a w hl hu hcl hsim
    have hz : ∀ i, i < ops.size → Lst l i := fun i hi => unl_zero (by omega) i (by omega)
    refine ⟨?_, hend l a w hz hl hsim⟩
    rw [List.eq_nil_iff_forall_not_mem]
    intro i hi
    obtain ⟨h0, o, ho, _⟩ := mem_ready.1 hi
    have hi' : i < ops.size := (Array.getElem?_eq_some_iff.1 ho).1
    have := hz i hi'
    unfold Lst at this
    simp [show i < l.size by omega] at this h0
    rw [h0] at this; cases this
  | succ fuel ih =>
    intro l a w hl hu hcl hsim
    refine ⟨fun hnil => hend l a w (hall l hl hnil) hl hsim, fun i hi => ?_⟩
    obtain ⟨h0, o, ho, hrdy⟩ := mem_ready.1 hi
    have hi' : i < ops.size := (Array.getElem?_eq_some_iff.1 ho).1
    have hil : i < l.size := by omega
    have hn : ¬ Lst l i := by unfold Lst; simp [hil] at h0 ⊢; exact h0
    have hrdy' : ∀ e ∈ o.after, Region.binds .any e = true → Lst l e.on := hrdy
    have hoL : ops.toList[i]? = some o := by simpa using ho
    obtain ⟨t, ht, hrec⟩ := p.recs i o hoL
    obtain ⟨k0, c1, A1, blk, hw1, h1⟩ := hsim
    obtain ⟨k, c, A, hw2, h, hfar⟩ := h1.far p (fun j => inferInstanceAs (Decidable (_ = true))) _ k0 c1 A1 (Nat.le_refl _)
    have hw : c.w = w := hw2.trans hw1
    subst hw
    have hS' := Lst.set hil (l := l)
    have hcl' : ∀ j oj, ops.toList[j]? = some oj → Lst (l.setIfInBounds i true) j → ∀ e ∈ oj.after, Region.binds .any e = true → Lst (l.setIfInBounds i true) e.on := by
      intro j oj hj hs e he hb
      rw [hS'] at hs ⊢
      rcases hs with hs | rfl
      · exact .inl (hcl j oj hj hs e he hb)
      · rw [hoL] at hj; injection hj with hj; subst hj
        exact .inl (hrdy' e he hb)
    have go : ∀ a' c' A' blk' k', Sim P ops.toList ch fl A0 s0 T c0 (Lst (l.setIfInBounds i true)) a' k' c' A' blk' → wpAny P .any ops Q fuel (l.setIfInBounds i true) a' c'.w :=
      fun a' c' A' blk' k' h' => ih _ _ _ (by simpa using hl) (unl_set hil hn hu) hcl' ⟨k', c', A', blk', rfl, h'⟩
    have hdn : ∀ d, t.o.dst = some d → d < A.n := fun d hd => by
      have := hrec.dst d (by rw [← hrec.eo]; exact hd)
      rw [frAfter_n] at this
      rw [h.An]; exact this
    have heo := hrec.eo
    unfold wpOp
    rw [ho]
    simp only
    by_cases hf : i ∈ fl
    · -- it floats
      obtain ⟨hc, o', ho', hfo⟩ := p.st.flo i hf
      rw [hoL] at ho'; injection ho' with ho'; subst ho'
      obtain ⟨q, hq⟩ := List.getElem?_of_mem hc
      have hkq : k ≤ q := by
        rcases Nat.lt_or_ge q k with h2 | h2
        · exact absurd (h.pre q i h2 hq) hn
        · exact h2
      have hlook := h.looks p hcl hoL hn hrdy' fun j r oj d hj hd hdl hs ha hji hrj => by
        rcases Nat.lt_or_ge r k with h2 | h2
        · exact h2
        · have := (h.pend r j h2 hrj hs).1
          exact absurd hdl (p.st.ff i j o oj d hf this hoL hj hd)
      have hg : o.guard = none := by
        unfold floats at hfo
        cases hgg : o.guard with
        | none => rfl
        | some g => rw [hgg] at hfo; cases hop : o.op <;> rw [hop] at hfo <;> exact absurd hfo Bool.false_ne_true
      have hdst : ∃ d, o.dst = some d := by
        unfold floats at hfo
        rw [hg] at hfo
        cases hdd : o.dst with
        | some d => exact ⟨d, rfl⟩
        | none => rw [hdd] at hfo; cases hop : o.op <;> rw [hop] at hfo <;> exact absurd hfo Bool.false_ne_true
      obtain ⟨d, hd⟩ := hdst
      have hwant : Region.wanted o (yielded ops a.tmps) = true := by unfold Region.wanted; rw [hg]
      rw [if_pos hwant]
      rcases hrec.cases with ⟨_, _, hop⟩ | ⟨_, hgl, _⟩
      · rw [← opL_congr (ev_congr (ops := ops.toList) hlook), ← hrec.es] at hop
        obtain ⟨v', cs, ty, hrun, hM⟩ := floats_run hE.L h.ar hfo hop
        refine .inl (wp_val hrun ?_)
        obtain ⟨c', hw', h'⟩ := h.float p hS' hn ht hq hkq hf (by rw [heo]; exact hd) (hdn d (by rw [heo]; exact hd)) hM
        rw [hd, ← hw']
        exact go _ _ _ _ _ h'
      · rw [hg] at hgl; exact hgl.elim
    · -- it is carried out where the chain stands
      have key : ∀ k', ((i ∉ ch ∧ k' = k) ∨ (ch[k]? = some i ∧ k' = k + 1)) →
          (∀ g, g ∈ o.looksAt ops → A.get g = (frAfter A0 (T.take i)).get g) →
          (t.did = true → opL E (frAfter A0 (T.take i)) o (stOf T ch s0 k) fun v s' => v = t.v ∧ s' = stOf T ch s0 k') →
          (t.did = false → stOf T ch s0 k' = stOf T ch s0 k) →
          (if Region.wanted o (yielded ops a.tmps) = true then o.wp P a c.w (wpAny P .any ops Q fuel (l.setIfInBounds i true)) Q ∨ (o.asks P a c.w ∧ LetsOut Q) else wpAny P .any ops Q fuel (l.setIfInBounds i true) (a.put o.dst undef) c.w) := by
        intro k' hk hlook hop hskip
        rcases hrec.cases with ⟨hd, hgl, _⟩ | ⟨hd, hgl, hv, hs⟩
        · rw [← guardL_congr (ops := ops.toList) hlook] at hgl
          rcases guardL_elim h.ar hgl with ⟨hw, _⟩ | ⟨_, hw⟩
          · rw [if_pos hw]
            have hop := hop hd
            rw [← opL_congr (ev_congr (ops := ops.toList) hlook), ← h.es] at hop
            refine .inl (opL_sound hE.L hE.G hE.H h.rel h.ar hop ?_)
            rintro v s' ι' w' v' ⟨rfl, rfl⟩ hR hEx hv
            have := h.fire p hS' hn ht hk hdn hR hEx hv
            rw [heo] at this
            exact go _ _ _ _ _ this
          · exact hw.elim
        · rw [← guardL_congr (ops := ops.toList) hlook] at hgl
          rcases guardL_elim h.ar hgl with ⟨_, hw⟩ | ⟨hw, _⟩
          · exact hw.elim
          · have hw' : Region.wanted o (yielded ops a.tmps) = false := hw
            rw [if_neg (by rw [hw']; simp)]
            have hst := hskip hd
            have hes := h.es
            have hc : (⟨c.X, c.R, c.ι, stOf T ch s0 k', c.w⟩ : Cx) = c := by rw [hst, ← hes]
            have := h.fire p hS' hn ht hk (ι' := c.ι) (w' := c.w) (v' := undef) hdn (by rw [hc]; exact h.rel) (by rw [hc]; exact Ext.refl c) (by rw [hv]; exact .tup [] #[] rfl (by simp))
            rw [heo] at this
            exact go _ ⟨c.X, c.R, c.ι, stOf T ch s0 k', c.w⟩ _ _ _ this
      by_cases hc : i ∈ ch
      · obtain ⟨q, hq⟩ := List.getElem?_of_mem hc
        have hkq : k ≤ q := by
          rcases Nat.lt_or_ge q k with h2 | h2
          · exact absurd (h.pre q i h2 hq) hn
          · exact h2
        have hqk : q = k := by
          rcases Nat.eq_or_lt_of_le hkq with h2 | h2
          · exact h2.symm
          · have hlt : k < ch.length := Nat.lt_trans h2 (lt_len hq)
            have hj : ch[k]? = some ch[k] := by simp [hlt]
            exact absurd ((ahead_pre (p.st.non k q _ i h2 hj hq hf)).ready hcl hoL hrdy') (hfar _ hj)
        subst hqk
        refine key (q + 1) (.inr ⟨hq, rfl⟩) ?_ ?_ ?_
        · refine h.looks p hcl hoL hn hrdy' fun j r oj d hj hd hdl hs ha hji hrj => ?_
          rcases Nat.lt_trichotomy r q with h2 | h2 | h2
          · exact h2
          · subst h2; rw [hq] at hrj; injection hrj with hrj; omega
          · have := p.st.inc q r i j h2 hq hrj; omega
        · intro hd
          rcases hrec.cases with ⟨_, _, hop⟩ | ⟨hd', _⟩
          · rw [p.stateAt hq] at hop
            have : stOf T ch s0 (q + 1) = t.s' := by simp [stOf, nth_eq, hq, ht]
            rw [this]; exact hop
          · rw [hd] at hd'; cases hd'
        · intro hd
          rcases hrec.cases with ⟨hd', _⟩ | ⟨_, _, _, hs⟩
          · rw [hd] at hd'; cases hd'
          · rw [p.stateAt hq] at hs
            have : stOf T ch s0 (q + 1) = t.s' := by simp [stOf, nth_eq, hq, ht]
            rw [this, hs]
      · refine key k (.inl ⟨hc, rfl⟩) ?_ ?_ (fun _ => rfl)
        · refine h.looks p hcl hoL hn hrdy' fun j r oj d hj hd hdl hs ha hji hrj => ?_
          rcases Nat.lt_or_ge r k with h2 | h2
          · exact h2
          · have hlt : k < ch.length := Nat.lt_of_le_of_lt h2 (lt_len hrj)
            have hk : ch[k]? = some ch[k] := by simp [hlt]
            rcases Nat.eq_or_lt_of_le h2 with h3 | h3
            · subst h3
              exact absurd hs (hfar j hrj)
            · exact absurd ((ahead_pre (p.st.soft i o k r _ j hc hoL h3 hk hrj ha)).ready hcl hoL hrdy') (hfar _ hk)
        · intro hd
          rcases hrec.cases with ⟨_, _, hop⟩ | ⟨hd', _⟩
          · cases hst : still E o with
            | true => exact (still_moves hst hop).2
            | false =>
              have hposs : possible (bels ops.toList []) ch i k = true := by
                unfold possible
                rw [List.all_eq_true]
                intro r hr
                rw [List.mem_range] at hr
                have hrj : ch[r]? = some ch[r] := by simp [hr]
                rw [nth_eq, hrj]
                simp only [Bool.and_eq_true, Bool.or_eq_true, Bool.not_eq_true', blt_iff]
                refine ⟨?_, ?_⟩
                · cases ha : ahead (bels ops.toList []) i ch[r] with
                  | false => exact .inl rfl
                  | true =>
                    right
                    rcases Nat.lt_or_ge r k with h2 | h2
                    · exact h2
                    · have hk : ch[k]? = some (ch[k]'(by omega)) := by simp
                      rcases Nat.eq_or_lt_of_le h2 with h3 | h3
                      · subst h3
                        exact absurd ((ahead_pre ha).ready hcl hoL hrdy') (hfar _ hrj)
                      · exact absurd ((ahead_pre (p.st.soft i o k r _ _ hc hoL h3 hk hrj ha)).ready hcl hoL hrdy') (hfar _ hk)
                · cases hb : Nat.blt r k with
                  | false => exact .inl rfl
                  | true =>
                    right
                    cases ha : ahead (bels ops.toList []) ch[r] i with
                    | false => rfl
                    | true => exact absurd ((ahead_pre ha).closed hcl (h.pre r _ ((blt_iff _ _).1 hb) hrj)) hn
              rcases p.st.win i o k hc hoL hst h.kle hposs with h2 | h2
              · have hss : sAfter s0 (T.take i) = stOf T ch s0 k := by
                  refine p.state i (Nat.le_of_lt (lt_len hoL)) k h.kle fun r j hrj => ?_
                  unfold here at h2
                  have := all_range h2 r (lt_len hrj)
                  rw [nth_eq, hrj] at this
                  simp only [beq_iff_eq] at this
                  have e1 := blt_iff j i
                  have e2 := blt_iff r k
                  rw [this] at e1
                  exact e1.symm.trans e2
                have hks := p.keeps ht hc
                rw [hss] at hop
                have : t.s' = stOf T ch s0 k := by rw [hks, hrec.es, hss]
                rw [this] at hop
                exact hop
              · have := demL_mem p.dem i k t h2 ht hd
                rw [hrec.eA, heo] at this
                exact this
          · rw [hd] at hd'; cases hd'

/-- All orders of a region's operations. -/
def AnyS (P : Program) (n0 : Nat) (ops : Array Oper) (Q : Exit → Fr → LS → Prop) (A : Fr) (s : LS) : Prop :=
  ∀ c0 c a, c0.s.next ≤ n0 → c.s = s → Inv P c0 c A a → wpAny P .any ops (QS P c0 Q) ops.size (Array.replicate ops.size false) a { c.w with drawn := c.w.drawn + 1 }

theorem anyS_draw_tr (hE : EnvOk P E) {n0 : Nat} {A : Fr} {s : LS} {Q : Exit → Fr → LS → Prop} (ch fl : List Nat) (un : List (Nat × Nat)) (hst : statOk E ops.toList ch fl un = true)
    {T : List Rec} {Af : Fr} {sf : LS} (hT : TrOk E ops.toList ops.toList (A.wipe ops.toList fl) s T Af sf) (hq1 : eqL E ch 0 T) (hq2 : demL E T ch s un) (hq3 : Q .normal Af sf) : AnyS P n0 ops Q A s := by
  intro c0 c a h0 hs hi
  subst hs
  obtain ⟨hlen, rfl, rfl, hrecs⟩ := hT.get
  have p : Plan E ops.toList ch fl un (A.wipe ops.toList fl) c.s T := ⟨statOk_spec hst, hlen, hrecs, hq1, hq2, fun f o d hf ho hd => Fr.wipe_bare hf ho hd⟩
  have hi2 := (hi.wipe ops.toList fl).drew { c.w with drawn := c.w.drawn + 1 } rfl rfl rfl rfl
  have hnone : ∀ i, ¬ Lst (Array.replicate ops.size false) i := by
    intro i h
    unfold Lst at h
    by_cases hi : i < ops.size <;> simp [hi] at h
  refine draw_main hE p (Q := QS P c0 Q) (c0 := c0) ?_ ops.size _ a _ (by simp) ?_ ?_ ⟨0, ⟨c.X, c.R, c.ι, c.s, { c.w with drawn := c.w.drawn + 1 }⟩, A.wipe ops.toList fl, fun _ => 0, rfl, ?_⟩
  · intro c' A' a' h'
    have hX : c'.X = c0.X := by
      funext x
      refine propext ⟨fun hx => ?_, fun hx => (h'.X x).2 (.inl hx)⟩
      rcases (h'.X x).1 hx with hx | ⟨r, j, hr, hj, _⟩
      · exact hx
      · have := lt_len hj; omega
    refine ⟨c', frAfter (A.wipe ops.toList fl) T, rfl, ⟨h'.rel, ⟨?_, h'.ar.defers, fun t v hv => ?_⟩, ?_, h'.res⟩, ?_⟩
    · rw [frAfter_n, ← h'.An]; exact h'.ar.size
    · refine h'.ar.get t v ?_
      rw [← hv]
      obtain ⟨f1, f2⟩ := p.fr T.length (Nat.le_refl _)
      rw [List.take_length] at f1 f2
      by_cases hw : ∃ (j : Nat) (tj : Rec), T[j]? = some tj ∧ tj.o.dst = some t
      · obtain ⟨j, tj, hj, hd⟩ := hw
        rw [f1 j tj t (lt_len hj) hj hd]
        refine h'.act j tj t ?_ (fun r hr => lt_len hr) hj hd
        have := lt_len hj
        rw [hlen] at this
        simpa using this
      · rw [f2 t fun j tj _ hj hd => hw ⟨j, tj, hj, hd⟩]
        exact h'.ina t fun j tj _ _ hj hd => hw ⟨j, tj, hj, hd⟩
    · have := h'.ext
      rw [← hX] at this
      exact this
    · have : c'.s = sAfter c.s T := by rw [h'.es, p.stateEnd]
      rw [this]
      exact hq3
  · unfold unl
    exact Nat.le_trans List.countP_le_length (by simp)
  · intro i o _ h; exact absurd h (hnone i)
  · have hXX : c.X = c0.X := hi.ext.X
    refine ⟨Nat.zero_le _, fun r j hr => by omega, rfl, hi2.rel, hi2.res, ?_, ?_, ?_, ?_, hi2.ar, rfl, ?_, ?_⟩
    · have := hi2.ext
      simp only [hXX] at this
      exact this
    · intro x
      simp only [hXX]
      refine ⟨.inl, ?_⟩
      rintro (h | ⟨_, j, _, _, hs, _⟩)
      · exact h
      · exact absurd hs (hnone j)
    · intro r j _ _ hs; exact absurd hs (hnone j)
    · intro r r' j j' _ _ _ hs; exact absurd hs (hnone j)
    · intro j t d hs; exact absurd hs (hnone j)
    · intro d _; rfl

theorem WpS.of_any (hE : EnvOk P E) {id : Nat} {n0 : Nat} {A : Fr} {s : LS} {Q : Exit → Fr → LS → Prop} (h : AnyS P n0 ops Q A s) : WpS P n0 (.region id ops true) Q A s :=
  fun c0 c a h0 hs hi => wp_region_any hE.M (h c0 c a h0 hs hi)

theorem wpS_draw_tr (hE : EnvOk P E) {id : Nat} {n0 : Nat} {A : Fr} {s : LS} {Q : Exit → Fr → LS → Prop} (ch fl : List Nat) (un : List (Nat × Nat)) (hst : statOk E ops.toList ch fl un = true)
    {T : List Rec} {Af : Fr} {sf : LS} (hT : TrOk E ops.toList ops.toList (A.wipe ops.toList fl) s T Af sf) (hq1 : eqL E ch 0 T) (hq2 : demL E T ch s un) (hq3 : Q .normal Af sf) : WpS P n0 (.region id ops true) Q A s :=
  WpS.of_any hE (anyS_draw_tr hE ch fl un hst hT hq1 hq2 hq3)

theorem wpS_draw (hE : EnvOk P E) {id : Nat} {n0 : Nat} {A : Fr} {s : LS} {Q : Exit → Fr → LS → Prop} (ch fl : List Nat) (un : List (Nat × Nat)) (hst : statOk E ops.toList ch fl un = true)
    (h : drawL E ops.toList 0 ops.toList (A.wipe ops.toList fl) s [] fun T A' s' => eqL E ch 0 T ∧ demL E T ch s un ∧ Q .normal A' s') : WpS P n0 (.region id ops true) Q A s := by
  obtain ⟨T, Af, sf, hT, hq1, hq2, hq3⟩ := drawL_tr _ _ _ _ _ h
  simp only [List.nil_append] at hq1 hq2
  exact wpS_draw_tr hE ch fl un hst hT hq1 hq2 hq3

/-- All operations but those of the chain leave the heap, as is plain. -/
def covered (E : Env) (ch : List Nat) : Nat → List Oper → Bool
  | _, [] => true
  | i, o :: r => (ch.contains i || still E o || looker o) && covered E ch (i + 1) r

theorem eqL_covered {ch : List Nat} {ops' : List Oper} : ∀ {rest : List Oper} {i : Nat} {A : Fr} {s : LS} {T : List Rec} {Af : Fr} {sf : LS}, TrOk E ops' rest A s T Af sf → covered E ch i rest = true → eqL E ch i T := by
  intro rest
  induction rest with
  | nil => intro i A s T Af sf h _; cases T with
    | nil => trivial
    | cons _ _ => exact h.elim
  | cons o r ih =>
    intro i A s T Af sf h hc
    cases T with
    | nil => exact h.elim
    | cons t T =>
      simp only [covered, Bool.and_eq_true] at hc
      simp only [eqL]
      rw [h.1.eo, hc.1]
      exact ih h.2 hc.2

theorem wpS_draw_covered (hE : EnvOk P E) {id : Nat} {n0 : Nat} {A : Fr} {s : LS} {Q : Exit → Fr → LS → Prop} (ch fl : List Nat) (un : List (Nat × Nat)) (hst : statOk E ops.toList ch fl un = true) (hc : covered E ch 0 ops.toList = true)
    (h : drawL E ops.toList 0 ops.toList (A.wipe ops.toList fl) s [] fun T A' s' => demL E T ch s un ∧ Q .normal A' s') : WpS P n0 (.region id ops true) Q A s := by
  obtain ⟨T, Af, sf, hT, hq2, hq3⟩ := drawL_tr _ _ _ _ _ h
  simp only [List.nil_append] at hq2
  exact wpS_draw_tr hE ch fl un hst hT (eqL_covered hT hc) hq2 hq3

/-! ### A region whose operations are told in another order -/
def idx : List Nat → Nat → Nat
  | [], _ => 0
  | x :: r, j => bif Nat.beq x j then 0 else idx r j + 1

def reOp (pm : List Nat) (o : Oper) : Oper :=
  { o with after := o.after.map (fun e => { e with on := idx pm e.on }), guard := match o.guard with | some (j, w) => some (idx pm j, w) | none => none }

/-- The operations in another order. -/
def reo (pm : List Nat) (ops : List Oper) : List Oper := match pm with
  | [] => ops
  | x :: r => (x :: r).map fun i => match nth ops i with
    | some o => reOp (x :: r) o
    | none => default

def permOk (pm : List Nat) (n : Nat) : Bool := match pm with
  | [] => true
  | x :: r => Nat.beq (x :: r).length n && (List.range n).all (fun i => match nth (x :: r) (idx (x :: r) i) with | some y => Nat.beq y i | none => false) &&
      (List.range n).all (fun p => match nth (x :: r) p with | some y => Nat.blt y n && Nat.beq (idx (x :: r) y) p | none => false)

theorem idx_le (pm : List Nat) (j : Nat) : idx pm j ≤ pm.length := by
  induction pm with
  | nil => exact Nat.le_refl _
  | cons x r ih =>
    simp only [idx, List.length_cons]
    cases Nat.beq x j with
    | true => simp
    | false => simpa using ih

theorem idx_mem {pm : List Nat} {j : Nat} (h : idx pm j < pm.length) : j ∈ pm := by
  induction pm with
  | nil => simp at h
  | cons x r ih =>
    simp only [idx, List.length_cons] at h
    cases hb : Nat.beq x j with
    | true => rw [Nat.eq_of_beq_eq_true hb]; simp
    | false => rw [hb] at h; simp at h; exact List.mem_cons_of_mem _ (ih h)

section
variable {pm : List Nat} {n : Nat}

structure PermOk (pm : List Nat) (n : Nat) : Prop where
  len : pm.length = n
  back : ∀ i, i < n → pm[idx pm i]? = some i
  fore : ∀ p y, pm[p]? = some y → y < n ∧ idx pm y = p

theorem permOk_spec (hne : pm ≠ []) (h : permOk pm n = true) : PermOk pm n := by
  unfold permOk at h
  split at h
  · exact absurd rfl hne
  rename_i x r
  simp only [Bool.and_eq_true] at h
  obtain ⟨⟨h1, h2⟩, h3⟩ := h
  have h1 := Nat.eq_of_beq_eq_true h1
  refine ⟨h1, fun i hi => ?_, fun p y hp => ?_⟩
  · have := List.all_eq_true.1 h2 i (List.mem_range.2 hi)
    simp only [nth_eq] at this
    split at this
    · rename_i y hy; rw [hy, Nat.eq_of_beq_eq_true this]
    · cases this
  · have hpn : p < n := by rw [← h1]; exact lt_len hp
    have := List.all_eq_true.1 h3 p (List.mem_range.2 hpn)
    simp only [nth_eq, hp, Bool.and_eq_true] at this
    exact ⟨(blt_iff _ _).1 this.1, Nat.eq_of_beq_eq_true this.2⟩

theorem PermOk.lt (h : PermOk pm n) {i : Nat} (hi : i < n) : idx pm i < n := by rw [← h.len]; exact lt_len (h.back i hi)
theorem PermOk.ge (h : PermOk pm n) {i : Nat} (hi : ¬ i < n) : idx pm i = n := by
  have h1 := idx_le pm i
  rw [h.len] at h1
  rcases Nat.lt_or_eq_of_le h1 with h2 | h2
  · have := idx_mem (pm := pm) (j := i) (by rw [h.len]; exact h2)
    obtain ⟨p, hp⟩ := List.getElem?_of_mem this
    exact absurd (h.fore p i hp).1 hi
  · exact h2
theorem PermOk.inj (h : PermOk pm n) {i j : Nat} (hi : i < n) (hj : j < n) (e : idx pm i = idx pm j) : i = j := by
  have h1 := h.back i hi
  have h2 := h.back j hj
  rw [e, h2] at h1
  injection h1 with h1; exact h1.symm

theorem reo_get (h : PermOk pm n) (hne : pm ≠ []) {ops : List Oper} (hn : ops.length = n) (i : Nat) : (reo pm ops)[idx pm i]? = (ops[i]?).map (reOp pm) := by
  unfold reo
  split
  · exact absurd rfl hne
  rename_i x r
  by_cases hi : i < n
  · rw [List.getElem?_map, h.back i hi]
    have ho : ops[i]? = some (ops[i]'(by omega)) := by simp [hn, hi]
    simp [nth_eq, ho]
  · rw [h.ge hi]
    have h1 : ops[i]? = none := by simp; omega
    rw [h1]
    have := h.len
    simp only [List.getElem?_map, Option.map_none]
    rw [List.getElem?_eq_none (by omega)]; rfl

theorem reo_length (h : PermOk pm n) (hne : pm ≠ []) (ops : List Oper) : (reo pm ops).length = n := by
  unfold reo
  split
  · exact absurd rfl hne
  · rw [List.length_map]; exact h.len

theorem yielded_reo (h : PermOk pm n) (hne : pm ≠ []) {ops : Array Oper} (hn : ops.size = n) (t : Array Value) (j : Nat) :
    yielded (reo pm ops.toList).toArray t (idx pm j) = yielded ops t j := by
  have := reo_get h hne (ops := ops.toList) (by simpa using hn) j
  unfold yielded
  simp only [List.getElem?_toArray, this, Array.getElem?_toList]
  cases ops[j]? <;> rfl

theorem wanted_reo (h : PermOk pm n) (hne : pm ≠ []) {ops : Array Oper} (hn : ops.size = n) (t : Array Value) (o : Oper) :
    Region.wanted (reOp pm o) (yielded (reo pm ops.toList).toArray t) = Region.wanted o (yielded ops t) := by
  unfold Region.wanted
  cases hg : o.guard with
  | none => simp [reOp, hg]
  | some p =>
    obtain ⟨j, w⟩ := p
    simp only [reOp, hg]
    rw [yielded_reo h hne hn]

theorem wpOp_reo {P : Program} (h : PermOk pm n) (hne : pm ≠ []) {ops : Array Oper} (hn : ops.size = n) {Q : Exit → Act → World → Prop} {K : Act → World → Prop} {i : Nat} {a : Act} {w : World}
    (hh : wpOp P (reo pm ops.toList).toArray Q (idx pm i) K a w) : wpOp P ops Q i K a w := by
  have hg := reo_get h hne (ops := ops.toList) (by simpa using hn) i
  unfold wpOp at *
  simp only [List.getElem?_toArray, hg, Array.getElem?_toList] at hh
  cases ho : ops[i]? with
  | none => rw [ho] at hh; exact hh
  | some o =>
    rw [ho] at hh
    simp only [Option.map_some, wanted_reo h hne hn] at hh ⊢
    exact hh

theorem ready_reo (h : PermOk pm n) (hne : pm ≠ []) {ops : Array Oper} (hn : ops.size = n) {l l' : Array Bool} (hl : l.size = n) (hl' : l'.size = n)
    (hh : ∀ i, i < n → l'[idx pm i]? = l[i]?) {i : Nat} (hi : i ∈ Region.ready .any ops l) : idx pm i ∈ Region.ready .any (reo pm ops.toList).toArray l' := by
  obtain ⟨h1, o, ho, h2⟩ := mem_ready.1 hi
  have hin : i < n := by
    rcases Nat.lt_or_ge i n with h3 | h3
    · exact h3
    · simp [show ops.size ≤ i by omega] at ho
  have hg := reo_get h hne (ops := ops.toList) (by simpa using hn) i
  have hget : ∀ (j : Nat) (b : Bool), l'.getD (idx pm j) b = l.getD j b := by
    intro j b
    by_cases hj : j < n
    · have := hh j hj
      simp only [Array.getD_eq_getD_getElem?, this]
    · rw [h.ge hj]
      have a1 : l'[n]? = none := by simp [hl']
      have a2 : l[j]? = none := by simp [hl]; omega
      simp only [Array.getD_eq_getD_getElem?, a1, a2]
  refine mem_ready.2 ⟨by rw [hget]; exact h1, reOp pm o, ?_, fun e he hb => ?_⟩
  · simp only [List.getElem?_toArray, hg, Array.getElem?_toList, ho]; rfl
  · simp only [reOp, Array.mem_map] at he
    obtain ⟨e', he', rfl⟩ := he
    show l'.getD (idx pm e'.on) false = true
    rw [hget]
    exact h2 e' he' (by simpa [Region.binds] using hb)

theorem wpAny_reo {P : Program} (h : PermOk pm n) (hne : pm ≠ []) {ops : Array Oper} (hn : ops.size = n) {Q : Exit → Act → World → Prop} : ∀ (fuel : Nat) (l l' : Array Bool) (a : Act) (w : World), l.size = n → l'.size = n →
    (∀ i, i < n → l'[idx pm i]? = l[i]?) → wpAny P .any (reo pm ops.toList).toArray Q fuel l' a w → wpAny P .any ops Q fuel l a w := by
  intro fuel
  have hmt : ∀ (l l' : Array Bool), l.size = n → l'.size = n → (∀ i, i < n → l'[idx pm i]? = l[i]?) → Region.ready .any ops l = [] → Region.ready .any (reo pm ops.toList).toArray l' = [] := by
    intro l l' hl hl' hh hr
    apply Classical.byContradiction
    intro hne2
    obtain ⟨p, hp⟩ := List.exists_mem_of_ne_nil _ hne2
    obtain ⟨h1, o', ho', h2⟩ := mem_ready.1 hp
    have hpn : p < n := by
      have := lt_len (by simpa using ho' : (reo pm ops.toList)[p]? = some o')
      rw [reo_length h hne] at this; exact this
    obtain ⟨y, hy⟩ : ∃ y, pm[p]? = some y := ⟨pm[p]'(by rw [h.len]; exact hpn), by simp [h.len, hpn]⟩
    obtain ⟨hyn, hyp⟩ := h.fore p y hy
    have hg := reo_get h hne (ops := ops.toList) (by simpa using hn) y
    rw [hyp] at hg
    simp only [List.getElem?_toArray, hg, Array.getElem?_toList] at ho'
    have hget : ∀ (j : Nat) (b : Bool), l'.getD (idx pm j) b = l.getD j b := by
      intro j b
      by_cases hj : j < n
      · have := hh j hj
        simp only [Array.getD_eq_getD_getElem?, this]
      · rw [h.ge hj]
        have a1 : l'[n]? = none := by simp [hl']
        have a2 : l[j]? = none := by simp [hl]; omega
        simp only [Array.getD_eq_getD_getElem?, a1, a2]
    have : y ∈ Region.ready .any ops l := by
      refine mem_ready.2 ⟨by rw [← hget, hyp]; exact h1, ?_⟩
      cases ho : ops[y]? with
      | none => rw [ho] at ho'; cases ho'
      | some o =>
        rw [ho] at ho'
        simp only [Option.map_some] at ho'
        injection ho' with ho'
        refine ⟨o, rfl, fun e he hb => ?_⟩
        rw [← hget]
        refine h2 { e with on := idx pm e.on } ?_ (by simpa [Region.binds] using hb)
        rw [← ho']
        simp only [reOp, Array.mem_map]
        exact ⟨e, he, rfl⟩
    rw [hr] at this
    cases this
  induction fuel with
  | zero =>
    intro l l' a w hl hl' hh hw
    simp only [wpAny] at hw ⊢
    refine ⟨?_, hw.2⟩
    apply Classical.byContradiction
    intro hne2
    obtain ⟨i, hi⟩ := List.exists_mem_of_ne_nil _ hne2
    have := ready_reo h hne hn hl hl' hh hi
    rw [hw.1] at this
    cases this
  | succ fuel ih =>
    intro l l' a w hl hl' hh hw
    simp only [wpAny] at hw ⊢
    refine ⟨fun hr => hw.1 (hmt l l' hl hl' hh hr), fun i hi => ?_⟩
    have hin : i < n := by
      obtain ⟨_, o, ho, _⟩ := mem_ready.1 hi
      rcases Nat.lt_or_ge i n with h3 | h3
      · exact h3
      · simp [show ops.size ≤ i by omega] at ho
    refine wpOp_reo h hne hn (wpOp_mono (fun a w hw => ih _ _ a w (by simpa using hl) (by simpa using hl') ?_ hw) (hw.2 _ (ready_reo h hne hn hl hl' hh hi)))
    intro j hj
    by_cases e : j = i
    · subst e
      rw [Array.getElem?_setIfInBounds_self, Array.getElem?_setIfInBounds_self]
      simp [hl, hl', h.lt hj, hj]
    · rw [Array.getElem?_setIfInBounds_ne (fun x => e (h.inj hj hin x.symm)), Array.getElem?_setIfInBounds_ne (fun x => e x.symm)]
      exact hh j hj

theorem AnyS.reo {P : Program} {ops : Array Oper} {n0 : Nat} {Q : Exit → Fr → LS → Prop} {A : Fr} {s : LS} (hp : permOk pm ops.size = true) (h : AnyS P n0 (reo pm ops.toList).toArray Q A s) : AnyS P n0 ops Q A s := by
  by_cases hne : pm = []
  · subst hne
    simpa [Den.reo] using h
  · have hP := permOk_spec hne hp
    intro c0 c a h0 hs hi
    have := h c0 c a h0 hs hi
    have hsz : (Den.reo pm ops.toList).toArray.size = ops.size := by simp [reo_length hP hne]
    rw [hsz] at this
    refine wpAny_reo hP hne rfl ops.size _ _ a _ (by simp) (by simp) (fun i hi => ?_) this
    simp [hP.lt hi, hi]
end

theorem wpS_draw_reo (hE : EnvOk P E) {id : Nat} {n0 : Nat} {A : Fr} {s : LS} {Q : Exit → Fr → LS → Prop} (ch fl : List Nat) (un : List (Nat × Nat)) (pm : List Nat) (hp : permOk pm ops.size = true)
    (hst : statOk E (reo pm ops.toList) ch fl un = true) (hc : covered E ch 0 (reo pm ops.toList) = true)
    (h : drawL E (reo pm ops.toList) 0 (reo pm ops.toList) (A.wipe (reo pm ops.toList) fl) s [] fun T A' s' => demL E T ch s un ∧ Q .normal A' s') : WpS P n0 (.region id ops true) Q A s := by
  obtain ⟨T, Af, sf, hT, hq2, hq3⟩ := drawL_tr _ _ _ _ _ h
  simp only [List.nil_append] at hq2
  exact WpS.of_any hE (AnyS.reo hp (anyS_draw_tr hE (ops := (reo pm ops.toList).toArray) ch fl un hst hT (eqL_covered hT hc) hq2 hq3))

end
end Den
/- Den, part 21: a heap seen otherwise: objects are forgotten, told as values, or get other names. -/
set_option linter.unusedSimpArgs false
set_option linter.unusedVariables false
namespace Den
open Go

/-- Is a slice known to have no more room? -/
def fullOf (cc : Option Nat) (n : Nat) : Bool := match cc with
  | some k => Nat.beq k n
  | none => false

/-- A value seen in another heap: `ρ` tells each new name's old one; `dd` tells which old names have no new one. -/
inductive Frz (s : LS) (n2 : Nat) (ρ : Nat → Nat) (dd : Nat → Prop) : LV → LV → Prop
  | bool (b : Bool) : Frz s n2 ρ dd (.bool b) (.bool b)
  | int (k : IntKind) (n : Int) : Frz s n2 ρ dd (.int k n) (.int k n)
  | flt (k : FloatKind) (b : Nat) : Frz s n2 ρ dd (.flt k b) (.flt k b)
  | cpx (k : FloatKind) (a b : Nat) : Frz s n2 ρ dd (.cpx k a b) (.cpx k a b)
  | str (b : List UInt8) : Frz s n2 ρ dd (.str b) (.str b)
  | nilp : Frz s n2 ρ dd .nilp .nilp
  | nils : Frz s n2 ρ dd .nils .nils
  | nil2 (full : Bool) : Frz s n2 ρ dd .nils (.lit [] full)
  | nilm : Frz s n2 ρ dd .nilm .nilm
  | nilf : Frz s n2 ρ dd .nilf .nilf
  | bptr (id k j : Nat) (h : k < n2) (e : ρ k = id) : Frz s n2 ρ dd (.bptr id j) (.bptr k j)
  | rptr (id k i j len : Nat) (h : k < n2) (e : ρ k = id) : Frz s n2 ρ dd (.rptr id i j len) (.rptr k i j len)
  | hsl (id k i n : Nat) (cc : Option Nat) (h : k < n2) (e : ρ k = id) : Frz s n2 ρ dd (.hsl id i n cc) (.hsl k i n cc)
  | map (id k : Nat) (h : k < n2) (e : ρ k = id) : Frz s n2 ρ dd (.map id) (.map k)
  | lit (es us : List LV) (full full' : Bool) (hff : full' = true → full = true) (hl : us.length = es.length) (h : ∀ (i : Nat) e u, es[i]? = some e → us[i]? = some u → Frz s n2 ρ dd e u) : Frz s n2 ρ dd (.lit es full) (.lit us full')
  | lptr (e u : LV) (j : Nat) (h : Frz s n2 ρ dd e u) : Frz s n2 ρ dd (.lptr e j) (.lptr u j)
  | agg (es us : List LV) (hl : us.length = es.length) (h : ∀ (i : Nat) e u, es[i]? = some e → us[i]? = some u → Frz s n2 ρ dd e u) : Frz s n2 ρ dd (.agg es) (.agg us)
  | tup (es us : List LV) (hl : us.length = es.length) (h : ∀ (i : Nat) e u, es[i]? = some e → us[i]? = some u → Frz s n2 ρ dd e u) : Frz s n2 ρ dd (.tup es) (.tup us)
  | fn (f : Nat) (es us : List LV) (hl : us.length = es.length) (h : ∀ (i : Nat) e u, es[i]? = some e → us[i]? = some u → Frz s n2 ρ dd e u) : Frz s n2 ρ dd (.fn f es) (.fn f us)
  | cold (id i n : Nat) (cc : Option Nat) (es : List LV) (t : TypeId) (us : List LV) (full' : Bool) (hff : full' = true → fullOf cc n = true) (hg : s.get id = some (.row es t false)) (hd : dd id) (hl : us.length = n)
      (h : ∀ (j : Nat) e u, es[i + j]? = some e → us[j]? = some u → Frz s n2 ρ dd e u) : Frz s n2 ρ dd (.hsl id i n cc) (.lit us full')
  | coldb (id j : Nat) (v : LV) (t : TypeId) (u : LV) (hg : s.get id = some (.box v t)) (hd : dd id) (h : Frz s n2 ρ dd v u) : Frz s n2 ρ dd (.bptr id j) (.lptr u j)

theorem Frz.cells {s : LS} {n2 : Nat} {ρ : Nat → Nat} {dd : Nat → Prop} {v u : LV} (h : Frz s n2 ρ dd v u) :
    u.cells.length = v.cells.length ∧ ∀ (j : Nat) x y, v.cells[j]? = some x → u.cells[j]? = some y → Frz s n2 ρ dd x y := by
  have one : ∀ (v u : LV), Frz s n2 ρ dd v u → v.cells = [v] → u.cells = [u] → (u.cells.length = v.cells.length ∧ ∀ (j : Nat) x y, v.cells[j]? = some x → u.cells[j]? = some y → Frz s n2 ρ dd x y) := by
    intro v u h h1 h2
    rw [h1, h2]
    refine ⟨rfl, fun j x y hx hy => ?_⟩
    cases j with
    | zero => simp at hx hy; subst hx; subst hy; exact h
    | succ j => simp at hx
  cases h with
  | agg es us hl h => exact ⟨hl, h⟩
  | bool b => exact one _ _ (.bool b) rfl rfl
  | int k n => exact one _ _ (.int k n) rfl rfl
  | flt k b => exact one _ _ (.flt k b) rfl rfl
  | cpx k a b => exact one _ _ (.cpx k a b) rfl rfl
  | str b => exact one _ _ (.str b) rfl rfl
  | nilp => exact one _ _ .nilp rfl rfl
  | nils => exact one _ _ .nils rfl rfl
  | nil2 full => exact ⟨rfl, fun j x y hx hy => by
      cases j with
      | zero => simp [LV.cells] at hx hy; subst hx; subst hy; exact .nil2 full
      | succ j => simp [LV.cells] at hx⟩
  | nilm => exact one _ _ .nilm rfl rfl
  | nilf => exact one _ _ .nilf rfl rfl
  | bptr id k j h e => exact one _ _ (.bptr id k j h e) rfl rfl
  | rptr id k i j len h e => exact one _ _ (.rptr id k i j len h e) rfl rfl
  | hsl id k i n cc h e => exact one _ _ (.hsl id k i n cc h e) rfl rfl
  | map id k h e => exact one _ _ (.map id k h e) rfl rfl
  | lit es us full full' hff hl h => exact one _ _ (.lit es us full full' hff hl h) rfl rfl
  | lptr e u j h => exact one _ _ (.lptr e u j h) rfl rfl
  | tup es us hl h => exact one _ _ (.tup es us hl h) rfl rfl
  | fn f es us hl h => exact one _ _ (.fn f es us hl h) rfl rfl
  | cold id i n cc es t us full' hff hg hd hl h => exact one _ _ (.cold id i n cc es t us full' hff hg hd hl h) rfl rfl
  | coldb id j v t u hg hd h => exact one _ _ (.coldb id j v t u hg hd h) rfl rfl

def FrzO (s : LS) (n2 : Nat) (ρ : Nat → Nat) (dd : Nat → Prop) : LObj → LObj → Prop
  | .box v t, .box u t' => t' = t ∧ Frz s n2 ρ dd v u
  | .row es t g, .row us t' g' => t' = t ∧ g' = g ∧ us.length = es.length ∧ ∀ (i : Nat) e u, es[i]? = some e → us[i]? = some u → Frz s n2 ρ dd e u
  | .mp kv, .mp kv' => kv'.length = kv.length ∧ ∀ (i : Nat) p q, kv[i]? = some p → kv'[i]? = some q → Frz s n2 ρ dd p.1 q.1 ∧ Frz s n2 ρ dd p.2 q.2
  | _, _ => False

/-- An old name has no new one. -/
def Dead (s2 : LS) (ρ : Nat → Nat) (id : Nat) : Prop := ∀ k o, s2.get k = some o → ρ k ≠ id

/-- A heap seen otherwise. -/
structure View (n0 : Nat) (s s2 : LS) (ρ : Nat → Nat) : Prop where
  next : n0 ≤ s2.next
  fix : ∀ k, k < n0 → ρ k = k
  inj : ∀ k k' o o', s2.get k = some o → s2.get k' = some o' → ρ k = ρ k' → k = k'
  obj : ∀ k o2, s2.get k = some o2 → k < s2.next ∧ ∃ o, s.get (ρ k) = some o ∧ FrzO s s2.next ρ (Dead s2 ρ) o o2

section
variable {P : Program} {c : Cx} {n0 : Nat} {s2 : LS} {ρ : Nat → Nat}

/-- The context of the heap that is seen otherwise. -/
def Cx.seen (c : Cx) (s2 : LS) (ρ : Nat → Nat) : Cx := ⟨c.X, c.R, fun k => c.ι (ρ k), s2, c.w⟩

theorem View.lb (h : View n0 c.s s2 ρ) {b : Nat} (hb : (c.seen s2 ρ).Lb b) : c.Lb b := by
  obtain ⟨k, o2, h1, h2⟩ := hb
  obtain ⟨_, o, h3, _⟩ := h.obj k o2 h1
  exact ⟨ρ k, o, h3, h2⟩

theorem View.ok (h : View n0 c.s s2 ρ) (hR : ∀ id, c.R id → id < n0) {k : Nat} (hk : k < s2.next) (ho : c.ok (ρ k)) : (c.seen s2 ρ).ok k :=
  ⟨hk, fun hr => ho.2 (by rw [h.fix k (hR k hr)]; exact hr)⟩

/-- A value's cells make it. -/
theorem VR.gather {e : LV} {f : Nat → Value} (h : ∀ (j : Nat) x, e.cells[j]? = some x → VR P c x (f j)) : ∃ v', VR P c e v' ∧ ∀ j, j < e.cells.length → v'.cells[j]? = some (f j) := by
  have one : ∀ v : LV, (∀ cs, v ≠ .agg cs) → (∀ (j : Nat) x, v.cells[j]? = some x → VR P c x (f j)) → ∃ v', VR P c v v' ∧ ∀ j, j < v.cells.length → v'.cells[j]? = some (f j) := by
    intro v hv h
    have hc : v.cells = [v] := by cases v <;> first | rfl | exact absurd rfl (hv _)
    have h0 := h 0 v (by rw [hc]; rfl)
    refine ⟨f 0, h0, fun j hj => ?_⟩
    rw [hc] at hj
    have : j = 0 := by simpa using hj
    subst this
    generalize f 0 = w at h0
    cases h0 <;> first | rfl | exact absurd rfl (hv _)
  cases e with
  | agg cs =>
    refine ⟨.agg ((List.range cs.length).map f).toArray, .agg cs _ (by simp) fun i v v' hv hv' => ?_, fun j hj => ?_⟩
    · have hi : i < cs.length := lt_len hv
      have hfi : (((List.range cs.length).map f).toArray)[i]? = some (f i) := by simp [hi]
      rw [hfi] at hv'
      injection hv' with hv'
      subst hv'
      exact h i v hv
    · have hj' : j < cs.length := hj
      simp [Value.cells, hj']
  | _ => exact one _ (by intro cs; simp) h

theorem VR.frz (hr : Rel P c) (h : View n0 c.s s2 ρ) (hR : ∀ id, c.R id → id < n0) {v u : LV} (hf : Frz c.s s2.next ρ (Dead s2 ρ) v u) : ∀ {v' : Value}, VR P c v v' → VR P (c.seen s2 ρ) u v' := by
  have hz : ∀ b, ¬ c.Z b → ¬ (c.seen s2 ρ).Z b := by
    rintro b hb (hx | hx)
    · exact hb (.inl hx)
    · exact hb (.inr (h.lb hx))
  have hdead : ∀ id o, c.s.get id = some o → Dead s2 ρ id → ¬ (c.seen s2 ρ).Z (c.ι id).1 := by
    rintro id o hg hd (hx | ⟨k, o2, h1, h2⟩)
    · exact hr.dis _ hx ⟨id, o, hg, rfl⟩
    · obtain ⟨_, o1, h3, _⟩ := h.obj k o2 h1
      exact hd k o2 h1 (hr.inj (ρ k) id o1 o h3 hg h2)
  induction hf with
  | bool b => intro v' hv; cases hv; exact .bool b
  | int k n => intro v' hv; cases hv; exact .int k n
  | flt k b => intro v' hv; cases hv; exact .flt k b
  | cpx k a b => intro v' hv; cases hv; exact .cpx k a b
  | str b => intro v' hv; cases hv; exact .str b
  | nilp => intro v' hv; cases hv; exact .nilp
  | nils => intro v' hv; cases hv; exact .nils
  | nil2 full => intro v' hv; cases hv; exact .lit0 none 0 full (fun _ => rfl) (fun _ => rfl)
  | nilm => intro v' hv; cases hv; exact .nilm
  | nilf => intro v' hv; cases hv; exact .nilf
  | bptr id k j hk e =>
    intro v' hv
    cases hv with
    | bptr _ _ a hn ha =>
      subst e
      refine .bptr _ _ _ (h.ok hR hk hn) fun v t hg => ?_
      obtain ⟨_, o, h1, h2⟩ := h.obj k _ hg
      cases o with
      | box v0 t0 => exact ha v0 t0 h1
      | row _ _ _ => exact h2.elim
      | mp _ => exact h2.elim
  | rptr id k i j len hk e =>
    intro v' hv
    cases hv with
    | rptr _ _ _ _ a hn ha =>
      subst e
      refine .rptr _ _ _ _ _ (h.ok hR hk hn) fun es t g hg => ?_
      obtain ⟨_, o, h1, h2⟩ := h.obj k _ hg
      cases o with
      | box _ _ => exact h2.elim
      | mp _ => exact h2.elim
      | row es0 t0 g0 =>
        obtain ⟨rfl, rfl, h3, _⟩ := h2
        obtain ⟨h4, h5⟩ := ha es0 _ _ h1
        rw [h3]
        exact ⟨h4, h5⟩
  | hsl id k i n cc hk e =>
    intro v' hv
    cases hv with
    | hsl _ _ _ _ a cc' hn hcap hcc ha =>
      subst e
      refine .hsl _ _ _ _ _ _ (h.ok hR hk hn) hcap hcc fun es t g hg => ?_
      obtain ⟨_, o, h1, h2⟩ := h.obj k _ hg
      cases o with
      | box _ _ => exact h2.elim
      | mp _ => exact h2.elim
      | row es0 t0 g0 =>
        obtain ⟨rfl, rfl, h3, _⟩ := h2
        obtain ⟨h4, h5⟩ := ha es0 _ _ h1
        rw [h3]
        exact ⟨h4, h5⟩
  | map id k hk e =>
    intro v' hv
    cases hv with
    | map _ r hn ha =>
      subst e
      refine .map _ _ (h.ok hR hk hn) fun kv hg => ?_
      obtain ⟨_, o, h1, h2⟩ := h.obj k _ hg
      cases o with
      | box _ _ => exact h2.elim
      | row _ _ _ => exact h2.elim
      | mp kv0 => exact ha kv0 h1
  | lit es us full full' hff hl hf ih =>
    intro v' hv
    cases hv with
    | lit0 a cc' _ hfull haa =>
      have : us = [] := List.eq_nil_of_length_eq_zero (by simpa using hl)
      subst this
      exact .lit0 a cc' full' (fun h => hfull (hff h)) haa
    | lit _ _ b o cc' esz vs n hlen hcap hfull hzz hb hsz hc hvv =>
      have back : ∀ (i : Nat) u, us[i]? = some u → ∃ e, es[i]? = some e ∧ Frz c.s s2.next ρ (Dead s2 ρ) e u := fun i u hu => by
        have hi : i < es.length := by rw [← hl]; exact lt_len hu
        exact ⟨es[i], by simp [hi], hf i _ u (by simp [hi]) hu⟩
      refine .lit us full' b o cc' esz vs n (by rw [hl]; exact hlen) hcap (fun h => hfull (hff h)) (hz b hzz) hb ?_ ?_ ?_
      · intro i u hu
        obtain ⟨e, he, hfe⟩ := back i u hu
        rw [hfe.cells.1]; exact hsz i e he
      · intro i u j y hu hy
        obtain ⟨e, he, hfe⟩ := back i u hu
        have hj : j < e.cells.length := by rw [← hfe.cells.1]; exact lt_len hy
        exact hc i e j e.cells[j] he (by simp [hj])
      · intro i u j y hu hy
        obtain ⟨e, he, hfe⟩ := back i u hu
        obtain ⟨w, hw1, hw2⟩ := VR.gather (P := P) (c := c) (e := e) (f := vs i) fun j x hx => hvv i e j x he hx
        have hj : j < e.cells.length := by rw [← hfe.cells.1]; exact lt_len hy
        exact (ih i e u he hu hw1).cells.2 j y _ hy (hw2 j hj)
  | lptr e u j hf ih =>
    intro v' hv
    cases hv with
    | lptr _ _ b o vs hzz hb hc hvv =>
      refine .lptr u j b o vs (hz b hzz) hb ?_ ?_
      · intro k y hy
        have hk : k < e.cells.length := by rw [← hf.cells.1]; exact lt_len hy
        exact hc k e.cells[k] (by simp [hk])
      · intro k y hy
        obtain ⟨w, hw1, hw2⟩ := VR.gather (P := P) (c := c) (e := e) (f := vs) hvv
        have hk : k < e.cells.length := by rw [← hf.cells.1]; exact lt_len hy
        exact (ih hw1).cells.2 k y _ hy (hw2 k hk)
  | agg es us hl hf ih =>
    intro v' hv
    cases hv with
    | agg _ ds hd hvv =>
      refine .agg us ds (by rw [hl]; exact hd) fun i u d hu hd' => ?_
      have hi : i < es.length := by rw [← hl]; exact lt_len hu
      exact ih i es[i] u (by simp [hi]) hu (hvv i _ d (by simp [hi]) hd')
  | tup es us hl hf ih =>
    intro v' hv
    cases hv with
    | tup _ ds hd hvv =>
      refine .tup us ds (by rw [hl]; exact hd) fun i u d hu hd' => ?_
      have hi : i < es.length := by rw [← hl]; exact lt_len hu
      exact ih i es[i] u (by simp [hi]) hu (hvv i _ d (by simp [hi]) hd')
  | fn f es us hl hf ih =>
    intro v' hv
    cases hv with
    | fn _ _ ds hd hvv =>
      refine .fn f us ds (by rw [hl]; exact hd) fun i u d hu hd' => ?_
      have hi : i < es.length := by rw [← hl]; exact lt_len hu
      exact ih i es[i] u (by simp [hi]) hu (hvv i _ d (by simp [hi]) hd')
  | cold id i n cc es t us full' hff hg hd hl hf ih =>
    intro v' hv
    cases hv with
    | hsl _ _ _ _ a cc' hn hcap hcc ha =>
      obtain ⟨cs, h1, h2, h3, h4, h5⟩ := hr.row id es t false hg
      obtain ⟨h6, h7⟩ := ha es t false hg
      obtain ⟨h8, h9, _⟩ := h7 (.inl rfl)
      have hfull : fullOf cc n = true → cc' = n := fun hx => by
        cases cc with
        | none => cases hx
        | some k => rw [hcc k rfl]; exact Nat.eq_of_beq_eq_true hx
      rcases Nat.eq_zero_or_pos n with h0 | h0
      · subst h0
        have : us = [] := List.eq_nil_of_length_eq_zero hl
        subst this
        exact .lit0 _ _ _ (fun hx => hfull (hff hx)) (fun h => by cases h)
      obtain rfl := h8 (by omega)
      have back : ∀ (j : Nat) u, us[j]? = some u → ∃ e, es[i + j]? = some e ∧ Frz c.s s2.next ρ (Dead s2 ρ) e u := fun j u hu => by
        have hj : j < n := by rw [← hl]; exact lt_len hu
        have hij : i + j < es.length := by omega
        exact ⟨es[i + j], by simp [hij], hf j _ u (by simp [hij]) hu⟩
      have cellAt : ∀ (j : Nat) e (q : Nat) x, es[i + j]? = some e → e.cells[q]? = some x → ∃ y, cs[(i + j) * P.cellsOf t + q]? = some y := by
        intro j e q x he hx
        have hq : q < P.cellsOf t := by rw [← h4 _ e he]; exact lt_len hx
        have hlt : (i + j) * P.cellsOf t + q < cs.size := by rw [h2]; exact idx_lt (Nat.lt_of_lt_of_le (lt_len he) h3) hq
        exact ⟨cs[(i + j) * P.cellsOf t + q], by simp [hlt]⟩
      refine .lit us _ (c.ι id).1 (i * P.cellsOf t) cc' (P.cellsOf t) (fun j q => cs.getD ((i + j) * P.cellsOf t + q) undef) n hl.symm hcap (fun h => hfull (hff h)) (hdead id _ hg hd) (hr.blt id _ hg) ?_ ?_ ?_
      · intro j u hu
        obtain ⟨e, he, hfe⟩ := back j u hu
        rw [hfe.cells.1]; exact h4 _ e he
      · intro j u q y hu hy
        obtain ⟨e, he, hfe⟩ := back j u hu
        have hq : q < e.cells.length := by rw [← hfe.cells.1]; exact lt_len hy
        obtain ⟨z, hz1⟩ := cellAt j e q e.cells[q] he (by simp [hq])
        have hidx : i * P.cellsOf t + (j * P.cellsOf t + q) = (i + j) * P.cellsOf t + q := by rw [Nat.add_mul, Nat.add_assoc]
        show c.w.cell? _ = _
        rw [cell_of_row c.w _ _ cs t (0, 0) h1, hidx]
        simp [hz1]
      · intro j u q y hu hy
        obtain ⟨e, he, hfe⟩ := back j u hu
        obtain ⟨w, hw1, hw2⟩ := VR.gather (P := P) (c := c) (e := e) (f := fun q => cs.getD ((i + j) * P.cellsOf t + q) undef) fun q x hx => by
          obtain ⟨z, hz1⟩ := cellAt j e q x he hx
          refine h5 (i + j) e q x _ he hx ?_
          simp [hz1]
        have hq : q < e.cells.length := by rw [← hfe.cells.1]; exact lt_len hy
        have hij : es[i + j]? = some e := he
        exact (ih j e u he hu hw1).cells.2 q y _ hy (hw2 q hq)
  | coldb id j v t u hg hd hf ih =>
    intro v' hv
    cases hv with
    | bptr _ _ a hn ha =>
      obtain ⟨cs, h1, h2, h3⟩ := hr.box id v t hg
      have := ha v t hg
      subst this
      have hcell : ∀ (q : Nat) x, v.cells[q]? = some x → ∃ y, cs[q]? = some y := fun q x hx => by
        have : q < cs.size := by rw [h2]; exact lt_len hx
        exact ⟨cs[q], by simp [this]⟩
      have := VR.lptr (P := P) (c := c.seen s2 ρ) u j (c.ι id).1 0 (fun q => cs.getD q undef) (hdead id _ hg hd) (hr.blt id _ hg) (fun q y hy => by
        have hq : q < v.cells.length := by rw [← hf.cells.1]; exact lt_len hy
        obtain ⟨z, hz1⟩ := hcell q v.cells[q] (by simp [hq])
        show c.w.cell? _ = _
        rw [cell_of_row c.w _ _ cs t (0, 0) h1, Nat.zero_add]
        simp [hz1]) (fun q y hy => by
        obtain ⟨w, hw1, hw2⟩ := VR.gather (P := P) (c := c) (e := v) (f := fun q => cs.getD q undef) fun q x hx => by
          obtain ⟨z, hz1⟩ := hcell q x hx
          refine h3 q x _ hx ?_
          simp [hz1]
        have hq : q < v.cells.length := by rw [← hf.cells.1]; exact lt_len hy
        exact (ih hw1).cells.2 q y _ hy (hw2 q hq))
      simpa using this

theorem Rel.view (hr : Rel P c) (h : View n0 c.s s2 ρ) (hR : ∀ id, c.R id → id < n0) : Rel P (c.seen s2 ρ) := by
  refine ⟨fun k o hk => (h.obj k o hk).1, ?_, ?_, ?_, ?_, hr.xlt, ?_, ?_, ?_⟩
  · intro id hid
    refine ⟨Nat.lt_of_lt_of_le (hR id hid) h.next, ?_⟩
    cases hx : s2.get id with
    | none => exact hx
    | some o2 =>
      obtain ⟨_, o, h1, _⟩ := h.obj id o2 hx
      rw [h.fix id (hR id hid), (hr.res id hid).2] at h1
      cases h1
  · intro k o2 hk
    obtain ⟨_, o, h1, _⟩ := h.obj k o2 hk
    exact hr.blt _ o h1
  · intro k k' o2 o2' hk hk' he
    obtain ⟨_, o, h1, _⟩ := h.obj k o2 hk
    obtain ⟨_, o', h1', _⟩ := h.obj k' o2' hk'
    exact h.inj k k' o2 o2' hk hk' (hr.inj _ _ o o' h1 h1' he)
  · intro b hb hl
    exact hr.dis b hb (h.lb hl)
  · intro k u t hk
    obtain ⟨_, o, h1, h2⟩ := h.obj k _ hk
    cases o with
    | row _ _ _ => exact h2.elim
    | mp _ => exact h2.elim
    | box v t0 =>
      obtain ⟨rfl, hf⟩ := h2
      obtain ⟨cs, k1, k2, k3⟩ := hr.box _ v t h1
      refine ⟨cs, k1, by rw [hf.cells.1]; exact k2, fun j y y' hy hy' => ?_⟩
      have hj : j < v.cells.length := by rw [← hf.cells.1]; exact lt_len hy
      exact VR.frz hr h hR (hf.cells.2 j _ y (by simp [hj]) hy) (k3 j v.cells[j] y' (by simp [hj]) hy')
  · intro k us t g hk
    obtain ⟨_, o, h1, h2⟩ := h.obj k _ hk
    cases o with
    | box _ _ => exact h2.elim
    | mp _ => exact h2.elim
    | row es t0 g0 =>
      obtain ⟨rfl, rfl, hl, hf⟩ := h2
      obtain ⟨cs, k1, k2, k3, k4, k5⟩ := hr.row _ es t g h1
      have back : ∀ (i : Nat) u, us[i]? = some u → ∃ e, es[i]? = some e ∧ Frz c.s s2.next ρ (Dead s2 ρ) e u := fun i u hu => by
        have hi : i < es.length := by rw [← hl]; exact lt_len hu
        exact ⟨es[i], by simp [hi], hf i _ u (by simp [hi]) hu⟩
      refine ⟨cs, k1, k2, by rw [hl]; exact k3, fun i u hu => ?_, fun i u j y y' hu hy hy' => ?_⟩
      · obtain ⟨e, he, hfe⟩ := back i u hu
        rw [hfe.cells.1]; exact k4 i e he
      · obtain ⟨e, he, hfe⟩ := back i u hu
        have hj : j < e.cells.length := by rw [← hfe.cells.1]; exact lt_len hy
        exact VR.frz hr h hR (hfe.cells.2 j _ y (by simp [hj]) hy) (k5 i e j e.cells[j] y' he (by simp [hj]) hy')
  · intro k kv' hk
    obtain ⟨_, o, h1, h2⟩ := h.obj k _ hk
    cases o with
    | box _ _ => exact h2.elim
    | row _ _ _ => exact h2.elim
    | mp kv =>
      obtain ⟨hl, hf⟩ := h2
      obtain ⟨es, cl, k1, k2, k3⟩ := hr.mp _ kv h1
      refine ⟨es, cl, k1, by rw [hl]; exact k2, fun i q e hq he => ?_⟩
      have hi : i < kv.length := by rw [← hl]; exact lt_len hq
      obtain ⟨k4, k5, k6⟩ := k3 i kv[i] e (by simp [hi]) he
      obtain ⟨f1, f2⟩ := hf i kv[i] q (by simp [hi]) hq
      exact ⟨VR.frz hr h hR f1 k4, VR.frz hr h hR f2 k5, k6⟩

theorem Ext.view {c0 : Cx} (hE : Ext c0 c) (h0 : c0.s.next ≤ n0) (h : View n0 c.s s2 ρ) : Ext c0 (c.seen s2 ρ) where
  X := hE.X
  R := hE.R
  next := Nat.le_trans h0 h.next
  size := hE.size
  box id v' t' hi hg := by
    have e := h.fix id (by omega)
    obtain ⟨_, o, h1, h2⟩ := h.obj id _ hg
    rw [e] at h1
    cases o with
    | row _ _ _ => exact h2.elim
    | mp _ => exact h2.elim
    | box v t0 =>
      obtain ⟨rfl, _⟩ := h2
      show c.ι (ρ id) = _ ∧ _
      rw [e]
      exact hE.box id v _ hi h1
  row id es' t' g' hi hg := by
    have e := h.fix id (by omega)
    obtain ⟨_, o, h1, h2⟩ := h.obj id _ hg
    rw [e] at h1
    cases o with
    | box _ _ => exact h2.elim
    | mp _ => exact h2.elim
    | row es t0 g0 =>
      obtain ⟨rfl, rfl, hl, _⟩ := h2
      obtain ⟨es0, g1, k1, k2, k3, k4⟩ := hE.row id es _ _ hi h1
      refine ⟨es0, g1, k1, by rw [hl]; exact k2, ?_, k4⟩
      show c.ι (ρ id) = _ ∨ _
      rw [e, hl]
      exact k3
  mp id kv' hi hg := by
    have e := h.fix id (by omega)
    obtain ⟨_, o, h1, h2⟩ := h.obj id _ hg
    rw [e] at h1
    cases o with
    | box _ _ => exact h2.elim
    | row _ _ _ => exact h2.elim
    | mp kv =>
      show c.ι (ρ id) = _ ∧ _
      rw [e]
      exact hE.mp id kv hi h1
  zed b hb hl := hE.zed b hb (h.lb hl)
  same := hE.same
  os := hE.os
  tape := hE.tape
  output := hE.output

/-- Of a frame, what is kept is told otherwise. -/
def frFrz (s : LS) (n2 : Nat) (ρ : Nat → Nat) (dd : Nat → Prop) (A : Fr) : List (Nat × LV) → Prop
  | [] => True
  | (k, u) :: r => (∃ v, A.get k = some v ∧ Frz s n2 ρ dd v u) ∧ frFrz s n2 ρ dd A r

theorem frFrz_look {s : LS} {n2 : Nat} {dd : Nat → Prop} {A : Fr} : ∀ {l : List (Nat × LV)}, frFrz s n2 ρ dd A l → ∀ t u, look t l = some u → ∃ v, A.get t = some v ∧ Frz s n2 ρ dd v u
  | [], _, t, v, h => by simp [look] at h
  | (k, u) :: r, ⟨h1, h2⟩, t, v, h => by
    simp only [look] at h
    cases hb : Nat.beq k t with
    | true => rw [hb] at h; simp at h; subst h; rw [← Nat.eq_of_beq_eq_true hb]; exact h1
    | false => rw [hb] at h; exact frFrz_look h2 t v h

theorem Inv.view {c0 : Cx} {A : Fr} {a : Act} (hi : Inv P c0 c A a) (h0 : c0.s.next ≤ n0) (h : View n0 c.s s2 ρ) {l : List (Nat × LV)} (hf : frFrz c.s s2.next ρ (Dead s2 ρ) A l) : Inv P c0 (c.seen s2 ρ) ⟨A.n, l⟩ a := by
  have hR : ∀ id, c.R id → id < n0 := fun id hid => Nat.lt_of_lt_of_le (hi.res id hid) h0
  refine ⟨hi.rel.view h hR, ⟨hi.ar.size, hi.ar.defers, fun t u hu => ?_⟩, hi.ext.view h0 h, hi.res⟩
  obtain ⟨v, h1, h2⟩ := frFrz_look hf t u hu
  obtain ⟨v', h3, h4⟩ := hi.ar.get t v h1
  exact ⟨v', h3, VR.frz hi.rel h hR h2 h4⟩

end
end Den
/- Den, part 22: loops, scopes, ends. -/
set_option linter.unusedSimpArgs false
set_option linter.unusedVariables false
namespace Den
open Go

/-! ### In the model -/
/-- A round of a loop, and all that follow. -/
def wpRound (P : Program) (c : Code) (Q : Exit → Act → World → Prop) (a : Act) (w : World) : Prop :=
  ∀ (b : Frame) (k : List Item) (cs : List Frame), ∃ e a' w', Q e a' w' ∧ Arrives P (lone (b.at a (.code c :: .inLoop c :: k)) cs w) b k cs e a' w'

theorem wp_loop_round {P : Program} {c : Code} {Q : Exit → Act → World → Prop} {a : Act} {w : World} (h : wpRound P c Q a w) : (Code.loop c).wp P Q a w :=
  fun b k cs => let ⟨e, a', w', q, r⟩ := h b k cs; ⟨e, a', w', q, .of_steps (.one step_loop) r⟩

theorem wpRound_step {P : Program} {c : Code} {Q : Exit → Act → World → Prop} {a : Act} {w : World} (h : c.wp P (Exit.then (wpRound P c Q) Q) a w) : wpRound P c Q a w := by
  intro b k cs
  obtain ⟨e, a₁, w₁, hq, harr⟩ := h b (.inLoop c :: k) cs
  cases e with
  | normal =>
    obtain ⟨e₂, a₂, w₂, hq₂, harr₂⟩ := hq b k cs
    exact ⟨e₂, a₂, w₂, hq₂, .of_steps (Steps.trans harr (.one step_inLoop)) harr₂⟩
  | exit id => exact ⟨_, a₁, w₁, hq, .pass (x := .inLoop c) rfl (fun _ _ => .inl (by simp)) harr⟩
  | goto l => exact ⟨_, a₁, w₁, hq, .pass (x := .inLoop c) rfl (fun _ _ => .inl (by simp)) harr⟩
  | ret => exact ⟨_, a₁, w₁, hq, .pass (x := .inLoop c) rfl (fun _ _ => .inl (by simp)) harr⟩
  | panic ch => exact ⟨_, a₁, w₁, hq, .pass (x := .inLoop c) rfl (fun _ _ => .inl (by simp)) harr⟩
  | outgrown => exact ⟨_, a₁, w₁, hq, .pass (x := .inLoop c) rfl (fun _ _ => .inl (by simp)) harr⟩

/-- Code within a scope. -/
def wpIn (P : Program) (body c : Code) (Q : Exit → Act → World → Prop) (a : Act) (w : World) : Prop :=
  ∀ (b : Frame) (k : List Item) (cs : List Frame), ∃ e a' w', Q e a' w' ∧ Arrives P (lone (b.at a (.code c :: .inScope body :: k)) cs w) b k cs e a' w'

theorem wp_scope_in {P : Program} {c : Code} {Q : Exit → Act → World → Prop} {a : Act} {w : World} (h : wpIn P c c Q a w) : (Code.scope c).wp P Q a w :=
  fun b k cs => let ⟨e, a', w', q, r⟩ := h b k cs; ⟨e, a', w', q, .of_steps (.one step_scope) r⟩

/-- A jump within a scope goes on behind its label. -/
def Exit.inScope (P : Program) (body : Code) (Q : Exit → Act → World → Prop) : Exit → Act → World → Prop
  | .goto l, a, w => match findLabel body l with
    | some rest => wpIn P body rest Q a w
    | none => Q (.goto l) a w
  | e, a, w => Q e a w

theorem wpIn_step {P : Program} {body c : Code} {Q : Exit → Act → World → Prop} {a : Act} {w : World} (h : c.wp P (Exit.inScope P body Q) a w) : wpIn P body c Q a w := by
  intro b k cs
  obtain ⟨e, a₁, w₁, hq, harr⟩ := h b (.inScope body :: k) cs
  cases e with
  | normal => exact ⟨.normal, a₁, w₁, hq, Steps.trans harr (.one step_inScope)⟩
  | exit id => exact ⟨.exit id, a₁, w₁, hq, fun k' hk => harr k' (by simp [exitTo, hk])⟩
  | goto l =>
    simp only [Exit.inScope] at hq
    split at hq
    · rename_i rest hl
      obtain ⟨e₂, a₂, w₂, hq₂, harr₂⟩ := hq b k cs
      exact ⟨e₂, a₂, w₂, hq₂, .of_steps (harr _ (by simp [gotoIn, hl])) harr₂⟩
    · rename_i hl
      exact ⟨.goto l, a₁, w₁, hq, fun k' hk => harr k' (by simp [gotoIn, hl, hk])⟩
  | ret => exact ⟨_, a₁, w₁, hq, harr⟩
  | panic ch => exact ⟨_, a₁, w₁, hq, harr⟩
  | outgrown => exact ⟨_, a₁, w₁, hq, harr⟩

/-! ### Told in the layer's terms -/
def WpR (P : Program) (n0 : Nat) (x : Code) (Q : Exit → Fr → LS → Prop) (A : Fr) (s : LS) : Prop :=
  ∀ c0 c a, c0.s.next ≤ n0 → c.s = s → Inv P c0 c A a → wpRound P x (QS P c0 Q) a c.w
def WpIn (P : Program) (n0 : Nat) (body x : Code) (Q : Exit → Fr → LS → Prop) (A : Fr) (s : LS) : Prop :=
  ∀ c0 c a, c0.s.next ≤ n0 → c.s = s → Inv P c0 c A a → wpIn P body x (QS P c0 Q) a c.w

section
variable {P : Program} {E : Env} {n0 : Nat} {Q : Exit → Fr → LS → Prop} {A : Fr} {s : LS}

theorem WpS.mono {x : Code} {Q' : Exit → Fr → LS → Prop} (h : WpS P n0 x Q A s) (hq : ∀ e A s, Q e A s → Q' e A s) : WpS P n0 x Q' A s :=
  fun c0 c a h0 hs hi => wp_mono (h c0 c a h0 hs hi) fun e a' w' ⟨c', A', hw, hi', hqq⟩ => ⟨c', A', hw, hi', hq _ _ _ hqq⟩

theorem WpS.of_round {x : Code} (h : WpR P n0 x Q A s) : WpS P n0 (.loop x) Q A s := fun c0 c a h0 hs hi => wp_loop_round (h c0 c a h0 hs hi)

/-- What follows a round of a loop. -/
def afterRound (X : Fr → LS → Prop) (Q : Exit → Fr → LS → Prop) (e : Exit) (A : Fr) (s : LS) : Prop := match e with
  | .normal => X A s
  | .exit i => Q (.exit i) A s
  | .goto l => Q (.goto l) A s
  | .ret => Q .ret A s
  | _ => False

theorem WpR.step {x : Code} (h : WpS P n0 x (afterRound (WpR P n0 x Q) Q) A s) : WpR P n0 x Q A s := by
  intro c0 c a h0 hs hi
  refine wpRound_step (wp_mono (h c0 c a h0 hs hi) ?_)
  rintro e a' w' ⟨c', A', rfl, hi', hq⟩
  cases e with
  | normal => exact hq c0 c' a' h0 rfl hi'
  | exit i => exact ⟨c', A', rfl, hi', hq⟩
  | goto l => exact ⟨c', A', rfl, hi', hq⟩
  | ret => exact ⟨c', A', rfl, hi', hq⟩
  | panic ch => exact hq.elim
  | outgrown => exact hq.elim

theorem WpS.of_in {x : Code} (h : WpIn P n0 x x Q A s) : WpS P n0 (.scope x) Q A s := fun c0 c a h0 hs hi => wp_scope_in (h c0 c a h0 hs hi)

/-- What follows a piece of a scope. -/
def inScope (P : Program) (n0 : Nat) (body : Code) (Q : Exit → Fr → LS → Prop) (e : Exit) (A : Fr) (s : LS) : Prop := match e with
  | .normal => Q .normal A s
  | .exit i => Q (.exit i) A s
  | .goto l => match findLabel body l with
    | some rest => WpIn P n0 body rest Q A s
    | none => Q (.goto l) A s
  | .ret => Q .ret A s
  | _ => False

theorem WpIn.step {body x : Code} (h : WpS P n0 x (inScope P n0 body Q) A s) : WpIn P n0 body x Q A s := by
  intro c0 c a h0 hs hi
  refine wpIn_step (wp_mono (h c0 c a h0 hs hi) ?_)
  rintro e a' w' ⟨c', A', rfl, hi', hq⟩
  cases e with
  | normal => exact ⟨c', A', rfl, hi', hq⟩
  | exit i => exact ⟨c', A', rfl, hi', hq⟩
  | goto l =>
    simp only [inScope] at hq
    simp only [Exit.inScope]
    split at hq
    · exact hq c0 c' a' h0 rfl hi'
    · exact ⟨c', A', rfl, hi', hq⟩
  | ret => exact ⟨c', A', rfl, hi', hq⟩
  | panic ch => exact hq.elim
  | outgrown => exact hq.elim

/-- What is known may be told otherwise. -/
theorem WpS.view {x : Code} {l : List (Nat × LV)} {s2 : LS} (ρ : Nat → Nat) (h : WpS P n0 x Q ⟨A.n, l⟩ s2) (hv : View n0 s s2 ρ) (hf : frFrz s s2.next ρ (Dead s2 ρ) A l) : WpS P n0 x Q A s := by
  intro c0 c a h0 hs hi
  subst hs
  exact h c0 (c.seen s2 ρ) a h0 rfl (hi.view h0 hv hf)
theorem WpR.view {x : Code} {l : List (Nat × LV)} {s2 : LS} (ρ : Nat → Nat) (h : WpR P n0 x Q ⟨A.n, l⟩ s2) (hv : View n0 s s2 ρ) (hf : frFrz s s2.next ρ (Dead s2 ρ) A l) : WpR P n0 x Q A s := by
  intro c0 c a h0 hs hi
  subst hs
  exact h c0 (c.seen s2 ρ) a h0 rfl (hi.view h0 hv hf)
theorem WpIn.view {body x : Code} {l : List (Nat × LV)} {s2 : LS} (ρ : Nat → Nat) (h : WpIn P n0 body x Q ⟨A.n, l⟩ s2) (hv : View n0 s s2 ρ) (hf : frFrz s s2.next ρ (Dead s2 ρ) A l) : WpIn P n0 body x Q A s := by
  intro c0 c a h0 hs hi
  subst hs
  exact h c0 (c.seen s2 ρ) a h0 rfl (hi.view h0 hv hf)

/-- A loop: what holds at the head of each round is told by a parameter that gets less. -/
theorem WpR.ix {x : Code} {α : Type} (F : α → List (Nat × LV) × LS) (μ : α → Nat)
    (h : ∀ y, (∀ z, μ z < μ y → WpR P n0 x Q ⟨A.n, (F z).1⟩ (F z).2) → WpS P n0 x (afterRound (WpR P n0 x Q) Q) ⟨A.n, (F y).1⟩ (F y).2) : ∀ y, WpR P n0 x Q ⟨A.n, (F y).1⟩ (F y).2 := by
  intro y
  generalize hm : μ y = m
  induction m using Nat.strongRecOn generalizing y with
  | _ m ih => exact WpR.step (h y fun z hz => ih (μ z) (hm ▸ hz) z rfl)

/-- A contract whose result is told otherwise. -/
theorem Holds.of_view {f : Nat} {fn : Func} {code : Code} {args : List LV} {s s2 : LS} {v : LV} (hE : EnvOk P E) (hf : P.funcs[f]? = some fn) (hb : fn.body = some code)
    (hname : (fn.name == "runtime.NumGoroutine") = false) (hn : args.length ≤ fn.ntmps)
    (h : wpL P E s.next code (endZ E fn.results.toList fun s' u => ∃ ρ, View s.next s' s2 ρ ∧ Frz s' s2.next ρ (Dead s2 ρ) u v) ⟨fn.ntmps, slots 0 args⟩ s) : Holds P f args s v s2 := by
  refine Holds.of_wpZ hE hf hb hname hn _ ?_ (wpL_sound hE _ _ _ _ h)
  rintro c0 c u u' hs hr hx hres hu ⟨ρ, hv, hz⟩
  have hR : ∀ id, c.R id → id < s.next := by rw [← hs]; exact hres
  exact ⟨fun k => c.ι (ρ k), hr.view hv hR, hx.view (by rw [hs]; exact Nat.le_refl _) hv, VR.frz hr hv hR hz hu⟩

theorem View.empty (s : LS) (ρ : Nat → Nat) : View 0 s LS.empty ρ :=
  ⟨Nat.le_refl _, fun k h => by omega, fun k k' o o' h => by simp [LS.empty] at h, fun k o h => by simp [LS.empty] at h⟩

/-- A contract that takes nothing of the heap and leaves nothing. -/
theorem Holds.pure {f : Nat} {fn : Func} {code : Code} {args : List LV} {v : LV} (hE : EnvOk P E) (hf : P.funcs[f]? = some fn) (hb : fn.body = some code)
    (hname : (fn.name == "runtime.NumGoroutine") = false) (hn : args.length ≤ fn.ntmps) (ha : ∀ u ∈ args, Refs 0 u) (hv : Refs 0 v)
    (h : wpL P E 0 code (endZ E fn.results.toList fun s' u => Frz s' 0 (fun k => k) (fun _ => True) u v) ⟨fn.ntmps, slots 0 args⟩ LS.empty) (s : LS) : Holds P f args s v s := by
  refine Holds.lift (Holds.of_wpZ hE hf hb hname hn _ ?_ (wpL_sound hE _ _ _ _ h)) ha hv s
  rintro c0 c u u' hs hr hx hres hu hz
  have hR : ∀ id, c.R id → id < 0 := by have : c0.s.next = 0 := by rw [hs]; rfl
                                        rw [← this]; exact hres
  have hV := View.empty c.s (fun k => k)
  have hd : ∀ id, Dead LS.empty (fun k => k) id := fun id k o h => by simp [LS.empty] at h
  have e : (fun _ => True) = Dead LS.empty (fun k => k) := by funext id; exact propext ⟨fun _ => hd id, fun _ => trivial⟩
  rw [e] at hz
  exact ⟨fun k => c.ι k, hr.view hV hR, hx.view (by rw [hs]; exact Nat.le_refl _) hV, VR.frz hr hV hR hz hu⟩

end
end Den
