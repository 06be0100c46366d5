/- Contracts, 3: a text's tokens. -/
import Derived.Test.YthjcagfiknkmkaaConB
namespace Ts
open Go Den
set_option maxRecDepth 100000
set_option linter.unusedSimpArgs false
set_option linter.unusedVariables false

/-- The tokens of a text from a place on: what was met, where it ended, whether all was well. -/
def toksF : Nat → List UInt8 → Nat → List Tok → Option (List Tok × Nat × Bool)
  | 0, _, _, _ => none
  | f + 1, l, i, acc => match l[i]? with
    | none => some (acc, i, true)
    | some c =>
      if c = 32 ∨ c = 9 ∨ c = 10 then toksF f l (i + 1) acc
      else if c = 35 then toksF f l (scanTo (fun x => !(x == 10)) l i) acc
      else if (oneF l i c).2 = 0 then some (acc, i, false)
      else toksF f l (i + (oneF l i c).2.toNat) (acc ++ [(oneF l i c).1])

theorem one_len {l : List UInt8} {i : Nat} {c : UInt8} (h : i < l.length) : 0 ≤ (oneF l i c).2 ∧ i + (oneF l i c).2.toNat ≤ l.length ∧ ((oneF l i c).2 ≠ 0 → 0 < (oneF l i c).2.toNat) := by
  have hw := scan_le (p := wordP) (l := l) (i := i + 1) (by omega)
  have hd := scan_le (p := digitF) (l := l) (i := i + 1) (by omega)
  have h61 : l[i + 1]? = some 61 → i + 1 < l.length := lt_len
  unfold oneF
  split
  · simp only; split <;> simp <;> omega
  · split
    · simp only; split <;> simp <;> omega
    · split
      · rename_i h2; have := h61 h2.2; simp; omega
      · split <;> simp <;> omega

theorem toks_go : ∀ (f : Nat) (l : List UInt8) (i : Nat) (acc : List Tok), l.length + 1 - i ≤ f → 0 < f → i ≤ l.length → ∃ r, toksF f l i acc = some r := by
  intro f
  induction f with
  | zero => intro l i acc _ h; omega
  | succ f ih =>
    intro l i acc hf _ hi
    simp only [toksF]
    split
    · exact ⟨_, rfl⟩
    · rename_i c hc
      have hlt := lt_len hc
      split
      · exact ih _ _ _ (by omega) (by omega) (by omega)
      · split
        · rename_i h35
          have hgo : scanTo (fun x => !(x == 10)) l i = scanTo (fun x => !(x == 10)) l (i + 1) := scan_go hlt (by
            have : l[i] = 35 := by rw [List.getElem?_eq_getElem hlt] at hc; injection hc with hc; rw [hc]; exact h35
            rw [this]; rfl)
          have := scan_le (p := fun x => !(x == 10)) (l := l) (i := i + 1) (by omega)
          rw [hgo]
          exact ih _ _ _ (by omega) (by omega) (by omega)
        · split
          · exact ⟨_, rfl⟩
          · rename_i h0
            have := one_len (c := c) hlt
            have h1 := this.2.2 h0
            exact ih _ _ _ (by omega) (by omega) (by omega)

def endTok (i : Nat) : Tok := ⟨4, [], 0, i⟩
/-- The tokens of a text; false: none, and where. -/
def tokensF (l : List UInt8) : List Tok × Int × Int :=
  if (l.length : Int) > 6000 then ([], 6000, 2) else match toksF (l.length + 1) l 0 [] with
    | some (acc, i, true) => (acc ++ [endTok i], 0, 0)
    | some (_, i, false) => ([], i, 2)
    | none => ([], 0, 2)

def encToks (T : List Tok) : LV := .lit (T.map Tok.enc) false

theorem enc_bare (t : Tok) : t.enc.bare = true := rfl
theorem toks_bare (T : List Tok) : LV.bares (T.map Tok.enc) = true := bares_map _ enc_bare T
theorem flat_tok (t : Tok) : FlatE 4 t.enc := ⟨rfl, rfl⟩

/-- The heap at the head of a round: the tokens that were met. -/
def TokH (acc : List Tok) : LS := match acc with
  | [] => LS.empty
  | t :: r => LS.one (.row ((t :: r).map Tok.enc) 73 false)
def TokS (acc : List Tok) : LV := match acc with
  | [] => .nils
  | t :: r => .hsl 0 0 (t :: r).length none

set_option maxHeartbeats 4000000 in
theorem tokens (l : List UInt8) (s : LS) : Holds P 30 [.str l] s (.tup [encToks (tokensF l).1, .int .i64 (tokensF l).2.1, .int .i64 (tokensF l).2.2]) s := by
  refine Holds.walkP Eok Go.Proofs.Try.func30 rfl rfl (by exact Nat.le_of_ble_eq_true rfl) (refs_all rfl) (LV.bare_refs _ ?_) ?_ s
  · simp only [LV.bare, LV.bares, encToks, toks_bare, Bool.and_self]
  conv => whnf
  cases h0 : decide ((l.length : Int) > 6000)
  · simp at h0
    obtain ⟨r, hr⟩ := toks_go (l.length + 1) l 0 [] (by omega) (by omega) (by omega)
    have hF : ∀ acc i, r = (acc, i, true) → tokensF l = (acc ++ [endTok i], 0, 0) := by
      intro acc i h; unfold tokensF; rw [if_neg (by omega), hr, h]
    have hG : ∀ acc i, r = (acc, i, false) → tokensF l = (([] : List Tok), (i : Int), (2 : Int)) := by
      intro acc i h; unfold tokensF; rw [if_neg (by omega), hr, h]
    conv => whnf
    refine WpR.rule Eok (α := { p : Nat × Nat × List Tok // p.2.1 ≤ l.length ∧ p.2.2.length ≤ p.2.1 ∧ toksF p.1 l p.2.1 p.2.2 = some r }) (fun p => [(0, .str l), (2, .nils), (3, .int .i64 0), (4, .int .i64 0), (5, TokS p.1.2.2), (6, .int .i64 p.1.2.1)])
      (fun p => TokH p.1.2.2) (fun p => p.1.1) ⟨(l.length + 1, 0, []), Nat.zero_le _, Nat.le_refl _, hr⟩ ?_ ⟨rfl, rfl, rfl, rfl, rfl, rfl, trivial⟩ rfl
    rintro ⟨⟨f, i, acc⟩, hi, hacc, hrun⟩ ih
    simp only at hi hacc hrun
    cases f with
    | zero => cases hrun
    | succ f =>
    simp only [toksF] at hrun
    conv => whnf
    cases h1 : decide ((i : Int) < l.length)
    · simp at h1
      have h1n : l[i]? = none := by simp; omega
      simp only [h1n] at hrun
      injection hrun with hrun
      have hF := hF _ _ hrun.symm
      rw [hF]
      cases acc with
      | nil =>
        conv => whnf
        refine ⟨by rintro u (_ | ⟨_, ⟨⟩⟩); exact flat_tok (endTok i), ?_⟩
        conv => whnf
        refine ⟨Nat.le_of_ble_eq_true rfl, ?_⟩
        conv => whnf
        refine ⟨Frz.tupL (.cons (Frz.rowL (us := [Tok.enc (endTok i)]) rfl trivial rfl ?_) (.cons (.int _ _) (.cons (.int _ _) .nil)))⟩
        exact bares_get (es := [Tok.enc (endTok i)]) rfl
      | cons t r =>
        conv => whnf
        refine ⟨by rintro u (_ | ⟨_, ⟨⟩⟩); exact flat_tok (endTok i), ?_⟩
        conv => whnf
        split
        · rename_i hb
          have := Nat.le_of_ble_eq_true hb
          simp at this
          omega
        conv => whnf
        refine ⟨by simp; simp at hacc; omega, ?_⟩
        conv => whnf
        refine ⟨Frz.tupL (.cons (Frz.rowL (us := (t :: r ++ [endTok i]).map Tok.enc) rfl trivial (by simp) ?_) (.cons (.int _ _) (.cons (.int _ _) .nil)))⟩
        have e : ∀ n m x, n = r.length + 1 + 1 → m = r.length + 1 → x = (endTok i).enc → List.take n (List.take m ((t :: r).map Tok.enc) ++ [x]) = (t :: r ++ [endTok i]).map Tok.enc := fun n m x hn hm hx => by
          rw [List.take_of_length_le (by simp; omega), List.take_of_length_le (by simp; omega), hx]; simp
        exact FL.of_eq (e _ _ _ (by simp) rfl rfl) (toks_bare _)
    · simp at h1
      have h1' : i < l.length := by omega
      have h1s : l[i]? = some l[i] := by simp [h1']
      simp only [h1s] at hrun
      conv => whnf
      refine ⟨by (first | omega | (dsimp only; omega)), l[i], h1s, ?_⟩
      conv => whnf
      cases h2 : ((l[i].toNat : Int) == 32)
      · have n2 : ¬ l[i] = 32 := by intro h; rw [h] at h2; simp at h2
        conv => whnf
        cases h3 : ((l[i].toNat : Int) == 9)
        · have n3 : ¬ l[i] = 9 := by intro h; rw [h] at h3; simp at h3
          conv => whnf
          cases h4 : ((l[i].toNat : Int) == 10)
          · have n4 : ¬ l[i] = 10 := by intro h; rw [h] at h4; simp at h4
            rw [if_neg (by simp [n2, n3, n4])] at hrun
            conv => whnf
            cases h5 : ((l[i].toNat : Int) == 35)
            · have n5 : ¬ l[i] = 35 := by intro h; rw [h] at h5; simp at h5
              rw [if_neg n5] at hrun
              have ho := one_len (c := l[i]) h1'
              have hone := fun s => one l i l[i] h1s (by omega) s
              generalize oneF l i l[i] = o at ho hone hrun
              obtain ⟨t0, n⟩ := o
              simp only at ho hone hrun
              cases acc with
              | nil =>
                conv => whnf
                refine ⟨_, _, hone _, ?_⟩
                conv => whnf
                cases h6 : ((n : Int) == 0)
                · have n6 : ¬ n = 0 := by simpa using h6
                  rw [if_neg n6] at hrun
                  have hpos := ho.2.2 n6
                  conv => whnf
                  refine ⟨by rintro u (_ | ⟨_, ⟨⟩⟩); exact flat_tok t0, ?_⟩
                  conv => whnf
                  refine ⟨Nat.le_of_ble_eq_true rfl, ?_⟩
                  conv => whnf
                  refine WpR.nextV (fun _ => 1) (ih ⟨(f, i + n.toNat, [t0]), ho.2.1, by show 1 ≤ i + n.toNat; omega, hrun⟩ (Nat.lt_succ_self f)) (View.row0 rfl (FL.of_eq (us := [t0].map Tok.enc) rfl (toks_bare _))) ⟨⟨_, rfl, .str _⟩, ⟨_, rfl, .nils⟩, ⟨_, rfl, .int _ _⟩, ⟨_, rfl, .int _ _⟩, ⟨_, rfl, .hsl _ _ _ _ _ Nat.one_pos rfl⟩, ⟨.int .i64 ((i + n.toNat : Nat) : Int), ?_, .int _ _⟩, trivial⟩
                  show some (LV.int .i64 (IntKind.i64.wrap ((i : Int) + n))) = _
                  rw [wrap_id (by omega) (by omega), show (i : Int) + n = ((i + n.toNat : Nat) : Int) by omega]
                · have n6 : n = 0 := by simpa using h6
                  rw [if_pos n6] at hrun
                  injection hrun with hrun
                  rw [hG _ _ hrun.symm]
                  conv => whnf
                  exact ⟨Frz.tupL (.cons (.nil2 false) (.cons (.int _ _) (.cons (.int _ _) .nil)))⟩
              | cons t r =>
                conv => whnf
                refine ⟨_, _, hone _, ?_⟩
                conv => whnf
                cases h6 : ((n : Int) == 0)
                · have n6 : ¬ n = 0 := by simpa using h6
                  rw [if_neg n6] at hrun
                  have hpos := ho.2.2 n6
                  conv => whnf
                  refine ⟨by rintro u (_ | ⟨_, ⟨⟩⟩); exact flat_tok t0, ?_⟩
                  conv => whnf
                  split
                  · rename_i hb
                    have := Nat.le_of_ble_eq_true hb
                    simp at this
                    omega
                  conv => whnf
                  refine ⟨by simp; simp at hacc; omega, ?_⟩
                  conv => whnf
                  have e : ∀ m x, m = r.length + 1 → x = t0.enc → List.take m ((t :: r).map Tok.enc) ++ [x] = (t :: r ++ [t0]).map Tok.enc := fun m x hm hx => by
                    rw [List.take_of_length_le (by simp; omega), hx]; simp
                  refine WpR.nextV (fun _ => 2) (ih ⟨(f, i + n.toNat, t :: r ++ [t0]), ho.2.1, by show (t :: r ++ [t0]).length ≤ i + n.toNat; simp at hacc ⊢; omega, hrun⟩ (Nat.lt_succ_self f))
                    (View.row0 rfl (FL.of_eq (us := (t :: r ++ [t0]).map Tok.enc) (e _ _ rfl rfl) (toks_bare _))) ⟨⟨_, rfl, .str _⟩, ⟨_, rfl, .nils⟩, ⟨_, rfl, .int _ _⟩, ⟨_, rfl, .int _ _⟩, ⟨.hsl 2 0 (t :: r ++ [t0]).length none, ?_, .hsl _ _ _ _ _ Nat.one_pos rfl⟩, ⟨.int .i64 ((i + n.toNat : Nat) : Int), ?_, .int _ _⟩, trivial⟩
                  · show some (LV.hsl 2 0 (List.take (t :: r).length ((t :: r).map Tok.enc) ++ [t0.enc]).length none) = _
                    rw [e (t :: r).length t0.enc rfl rfl, List.length_map]
                  · show some (LV.int .i64 (IntKind.i64.wrap ((i : Int) + n))) = _
                    rw [wrap_id (by omega) (by omega), show (i : Int) + n = ((i + n.toNat : Nat) : Int) by omega]
                · have n6 : n = 0 := by simpa using h6
                  rw [if_pos n6] at hrun
                  injection hrun with hrun
                  rw [hG _ _ hrun.symm]
                  conv => whnf
                  exact ⟨Frz.tupL (.cons (.nil2 false) (.cons (.int _ _) (.cons (.int _ _) .nil)))⟩
            · have n5 : l[i] = 35 := by
                have h5 : (l[i].toNat : Int) = 35 := by simpa using h5
                exact UInt8.toNat_inj.1 (by show l[i].toNat = 35; omega)
              rw [if_pos n5] at hrun
              conv => whnf
              refine WpR.rule Eok (α := { j : Nat // i ≤ j ∧ j ≤ l.length ∧ scanTo (fun x => !(x == 10)) l i = scanTo (fun x => !(x == 10)) l j }) (fun j => [(0, .str l), (2, .nils), (3, .int .i64 0), (4, .int .i64 0), (5, TokS acc), (6, .int .i64 j.1)])
                (fun _ => TokH acc) (fun j => l.length - j.1) ⟨i, Nat.le_refl _, by omega, rfl⟩ ?_ ⟨rfl, rfl, rfl, rfl, rfl, rfl, trivial⟩ rfl
              rintro ⟨j, hj1, hj2, hj3⟩ ih2
              conv => whnf
              cases h6 : decide ((j : Int) < l.length)
              · simp at h6
                have ht : scanTo (fun x => !(x == 10)) l i = j := by rw [hj3]; exact scan_end (by omega)
                rw [ht] at hrun
                conv => whnf
                exact WpR.next (ih ⟨(f, j, acc), hj2, by show acc.length ≤ j; omega, hrun⟩ (Nat.lt_succ_self f)) ⟨rfl, rfl, rfl, rfl, rfl, rfl, trivial⟩
              · simp at h6
                have h6' : j < l.length := by omega
                conv => whnf
                refine ⟨by (first | omega | (dsimp only; omega)), l[j], by simp [h6'], ?_⟩
                conv => whnf
                cases h7 : ((l[j].toNat : Int) != 10)
                · have ht : scanTo (fun x => !(x == 10)) l i = j := by
                    rw [hj3]; refine scan_stop h6' ?_
                    simp at h7 ⊢; omega
                  rw [ht] at hrun
                  conv => whnf
                  exact WpR.next (ih ⟨(f, j, acc), hj2, by show acc.length ≤ j; omega, hrun⟩ (Nat.lt_succ_self f)) ⟨rfl, rfl, rfl, rfl, rfl, rfl, trivial⟩
                · conv => whnf
                  exact WpR.next (ih2 ⟨j + 1, by omega, by omega, by rw [hj3]; exact scan_go h6' (by simp at h7 ⊢; omega)⟩ (by show l.length - (j + 1) < l.length - j; omega)) ⟨rfl, rfl, rfl, rfl, rfl, slot_succ (i := j) (by omega), trivial⟩
          · have n4 : l[i] = 10 := by
              have h4 : (l[i].toNat : Int) = 10 := by simpa using h4
              exact UInt8.toNat_inj.1 (by show l[i].toNat = 10; omega)
            rw [if_pos (.inr (.inr n4))] at hrun
            conv => whnf
            exact WpR.next (ih ⟨(f, i + 1, acc), by show i + 1 ≤ _; omega, by show acc.length ≤ i + 1; omega, hrun⟩ (Nat.lt_succ_self f)) ⟨rfl, rfl, rfl, rfl, rfl, slot_succ (i := i) (by omega), trivial⟩
        · have n3 : l[i] = 9 := by
            have h3 : (l[i].toNat : Int) = 9 := by simpa using h3
            exact UInt8.toNat_inj.1 (by show l[i].toNat = 9; omega)
          rw [if_pos (.inr (.inl n3))] at hrun
          conv => whnf
          exact WpR.next (ih ⟨(f, i + 1, acc), by show i + 1 ≤ _; omega, by show acc.length ≤ i + 1; omega, hrun⟩ (Nat.lt_succ_self f)) ⟨rfl, rfl, rfl, rfl, rfl, slot_succ (i := i) (by omega), trivial⟩
      · have n2 : l[i] = 32 := by
          have h2 : (l[i].toNat : Int) = 32 := by simpa using h2
          exact UInt8.toNat_inj.1 (by show l[i].toNat = 32; omega)
        rw [if_pos (.inl n2)] at hrun
        conv => whnf
        exact WpR.next (ih ⟨(f, i + 1, acc), by show i + 1 ≤ _; omega, by show acc.length ≤ i + 1; omega, hrun⟩ (Nat.lt_succ_self f)) ⟨rfl, rfl, rfl, rfl, rfl, slot_succ (i := i) (by omega), trivial⟩
  · conv => whnf
    have h0 := of_decide_eq_true h0
    refine ⟨?_⟩
    have hF : tokensF l = ([], 6000, 2) := by unfold tokensF; rw [if_pos h0]
    rw [hF]
    exact Frz.tupL (.cons (.nil2 false) (.cons (.int _ _) (.cons (.int _ _) .nil)))
end Ts
