/- Contracts, 1: letters, digits, numbers, places, words. -/
import Derived.Test.YthjcagfiknkmkaaTsk
import Derived.Test.YthjcagfiknkmkaaDend
namespace Ts
open Go Den
set_option maxRecDepth 100000
set_option linter.unusedSimpArgs false

theorem wrap_id {x : Int} (h1 : -9223372036854775808 ≤ x) (h2 : x ≤ 9223372036854775807) : IntKind.i64.wrap x = x := by
  rw [IntKind.wrap_i64]; omega

theorem slot_succ {i : Nat} (h : i < 4611686018427387904) : some (LV.int .i64 (IntKind.i64.wrap ((i : Int) + 1))) = some (LV.int .i64 ((i + 1 : Nat) : Int)) := by
  rw [wrap_id] <;> first | rfl | omega

/-! ### letter, digit -/
def letterF (c : Int) : Bool := decide (97 ≤ c) && decide (c ≤ 122)
theorem letter (c : Int) (s : LS) : Holds P 65 [.int .u8 c] s (.bool (letterF c)) s := by
  refine Holds.walk Eok Go.Proofs.Try.func65 rfl rfl (by exact Nat.le_of_ble_eq_true rfl) ?_
  conv => whnf
  cases h1 : decide (c ≥ 97)
  · conv => whnf
    exact ⟨by simp [letterF]; simp at h1; omega, SubS.self _ _ _⟩
  · conv => whnf
    cases h2 : decide (c ≤ 122)
    · conv => whnf
      exact ⟨by simp [letterF]; simp at h1 h2; omega, SubS.self _ _ _⟩
    · conv => whnf
      exact ⟨by simp [letterF]; simp at h1 h2; omega, SubS.self _ _ _⟩

def digitF (c : Int) : Bool := decide (48 ≤ c) && decide (c ≤ 57)
theorem digit (c : Int) (s : LS) : Holds P 66 [.int .u8 c] s (.bool (digitF c)) s := by
  refine Holds.walk Eok Go.Proofs.Try.func66 rfl rfl (by exact Nat.le_of_ble_eq_true rfl) ?_
  conv => whnf
  cases h1 : decide (c ≥ 48)
  · conv => whnf
    exact ⟨by simp [digitF]; simp at h1; omega, SubS.self _ _ _⟩
  · conv => whnf
    cases h2 : decide (c ≤ 57)
    · conv => whnf
      exact ⟨by simp [digitF]; simp at h1 h2; omega, SubS.self _ _ _⟩
    · conv => whnf
      exact ⟨by simp [digitF]; simp at h1 h2; omega, SubS.self _ _ _⟩

/-! ### Within, Spot, Place -/
theorem within (n a b : Int) (s : LS) : Holds P 68 [.int .i64 n, .int .i64 a, .int .i64 b] s (.int .i64 (max a (min b n))) s := by
  refine Holds.walk Eok Go.Proofs.Try.func68 rfl rfl (by exact Nat.le_of_ble_eq_true rfl) ?_
  conv => whnf
  exact ⟨by congr 1; split <;> split at * <;> omega, SubS.self _ _ _⟩

def spotF : List UInt8 → Int × Int → Int × Int
  | [], p => p
  | c :: r, p => spotF r (if c = 10 then (IntKind.i64.wrap (p.1 + 1), 1) else (p.1, IntKind.i64.wrap (p.2 + 1)))
theorem spotF_snoc (l : List UInt8) (c : UInt8) (p : Int × Int) : spotF (l ++ [c]) p = (if c = 10 then (IntKind.i64.wrap ((spotF l p).1 + 1), 1) else ((spotF l p).1, IntKind.i64.wrap ((spotF l p).2 + 1))) := by
  induction l generalizing p with
  | nil => rfl
  | cons x r ih => exact ih _

def spotAt (l : List UInt8) (k : Int) : Int × Int := spotF (l.take (max 0 (min (l.length : Int) k)).toNat) (1, 1)

theorem spot (l : List UInt8) (k : Int) (hl : l.length < 4611686018427387904) (s : LS) :
    Holds P 52 [.str l, .int .i64 k] s (.tup [.int .i64 (spotAt l k).1, .int .i64 (spotAt l k).2]) s := by
  unfold spotAt
  refine Holds.walk Eok Go.Proofs.Try.func52 rfl rfl (by exact Nat.le_of_ble_eq_true rfl) ?_
  conv => whnf
  refine ⟨_, s, within _ _ _ s, ?_⟩
  generalize hn : max 0 (min (l.length : Int) k) = n
  have hn0 : 0 ≤ n := by omega
  have hnl : n ≤ l.length := by omega
  clear hn
  conv => whnf
  refine WpR.rule Eok (α := { i : Nat // i ≤ n.toNat }) (fun i => [(0, .str l), (1, .int .i64 n), (6, .int .i64 (spotF (l.take i.1) (1, 1)).1), (7, .int .i64 (spotF (l.take i.1) (1, 1)).2), (8, .int .i64 i.1)]) (fun _ => s) (fun i => n.toNat - i.1) ⟨0, Nat.zero_le _⟩ ?_ ⟨rfl, rfl, rfl, rfl, rfl, trivial⟩ rfl
  rintro ⟨i, hi⟩ ih
  conv => whnf
  cases h1 : decide ((i : Int) < n)
  · simp at h1
    have : i = n.toNat := by omega
    subst this
    conv => whnf
    exact ⟨rfl, SubS.self _ _ _⟩
  · simp at h1
    have hil : i < l.length := by omega
    conv => whnf
    refine ⟨by omega, l[i], by simp [hil], ?_⟩
    conv => whnf
    have hs : l.take (i + 1) = l.take i ++ [l[i]] := by rw [List.take_succ_eq_append_getElem hil]
    have hw : IntKind.i64.wrap ((i : Int) + 1) = ((i + 1 : Nat) : Int) := by rw [wrap_id] <;> omega
    have hsn := spotF_snoc (l.take i) l[i] (1, 1)
    rw [← hs] at hsn
    cases h2 : ((l[i].toNat : Int) == 10)
    · conv => whnf
      have h2 : ¬ l[i] = 10 := by intro h; rw [h] at h2; simp at h2
      rw [if_neg h2] at hsn
      refine WpR.next (ih ⟨i + 1, by omega⟩ (by show n.toNat - (i + 1) < n.toNat - i; omega)) ⟨rfl, rfl, ?_, ?_, ?_, trivial⟩
      · show some _ = some _; simp only [hsn]
      · show some _ = some _; simp only [hsn]
      · show some _ = some _; rw [hw]
    · conv => whnf
      have h2 : l[i] = 10 := by
        have h2 : (l[i].toNat : Int) = 10 := by simpa using h2
        exact UInt8.toNat_inj.1 (by show l[i].toNat = 10; omega)
      rw [if_pos h2] at hsn
      refine WpR.next (ih ⟨i + 1, by omega⟩ (by show n.toNat - (i + 1) < n.toNat - i; omega)) ⟨rfl, rfl, ?_, ?_, ?_, trivial⟩
      · show some _ = some _; simp only [hsn]
      · show some _ = some _; simp only [hsn]
      · show some _ = some _; rw [hw]

def placeF (l : List UInt8) (k : Int) : Nat × Nat := (FloatKind.f64.nearest (spotAt l k).1, FloatKind.f64.nearest (spotAt l k).2)
theorem place (l : List UInt8) (k : Int) (hl : l.length < 4611686018427387904) (s : LS) :
    Holds P 33 [.str l, .int .i64 k] s (.cpx .f64 (placeF l k).1 (placeF l k).2) s := by
  refine Holds.walk Eok Go.Proofs.Try.func33 rfl rfl (by exact Nat.le_of_ble_eq_true rfl) ?_
  conv => whnf
  refine ⟨_, s, spot l k hl s, ?_⟩
  conv => whnf
  refine ⟨rfl, ?_⟩
  conv => whnf
  exact ⟨rfl, SubS.self _ _ _⟩

/-! ### Keyword, declKind -/
def kws : List (List UInt8) := [[118, 97, 114], [119, 105, 100, 101], [97, 116, 111, 109, 105, 99], [108, 111, 99, 97, 108], [109, 117, 116, 101, 120], [99, 104, 97, 110], [103, 111], [108, 111, 99, 107], [117, 110, 108, 111, 99, 107], [115, 101, 110, 100], [114, 101, 99, 118], [112, 114, 105, 110, 116], [105, 102], [101, 108, 115, 101], [114, 101, 112, 101, 97, 116], [103, 111, 116, 111], [108, 97, 98, 101, 108]]
def keywordF (t : List UInt8) : Bool := kws.any (fun k => t == k)
theorem any_false {α : Type} (p : α → Bool) : ∀ (l : List α), (∀ (i : Nat) x, l[i]? = some x → p x = false) → l.any p = false
  | [], _ => rfl
  | x :: r, h => by simp only [List.any_cons, h 0 x rfl, Bool.false_or]; exact any_false p r fun i y hy => h (i + 1) y hy
theorem any_true {α : Type} (p : α → Bool) (l : List α) (i : Nat) (x : α) (h : l[i]? = some x) (hp : p x = true) : l.any p = true :=
  List.any_eq_true.2 ⟨x, List.mem_of_getElem? h, hp⟩

/-- A part of an array of strings. -/
theorem part_strs (ks : List (List UInt8)) (i : Nat) (k : List UInt8) (h : ks[i]? = some k) : partL L 9 (ks.map LV.str) (i * 1) = some (.str k) := by
  show nth (ks.map LV.str) (i * 1) = _
  rw [nth_eq, Nat.mul_one, List.getElem?_map, h]; rfl

theorem keyword (t : List UInt8) (s : LS) : Holds P 53 [.str t] s (.bool (keywordF t)) s := by
  refine Holds.walk Eok Go.Proofs.Try.func53 rfl rfl (by exact Nat.le_of_ble_eq_true rfl) ?_
  conv => whnf
  refine WpR.rule Eok (α := { i : Nat // i ≤ 17 ∧ ∀ (j : Nat) x, j < i → kws[j]? = some x → (t == x) = false }) (fun i => [(0, .str t), (5, .agg (kws.map LV.str)), (6, .int .i64 i.1)]) (fun _ => s) (fun i => 17 - i.1) ⟨0, by omega, by intro j x h; omega⟩ ?_ ⟨rfl, rfl, rfl, trivial⟩ rfl
  rintro ⟨i, hi, hno⟩ ih
  conv => whnf
  cases h1 : decide ((i : Int) < 17)
  · simp at h1
    conv => whnf
    refine ⟨?_, SubS.self _ _ _⟩
    have : keywordF t = false := any_false _ _ fun j x hx => hno j x (by have h1 := lt_len hx; have h2 : kws.length = 17 := rfl; omega) hx
    rw [this]
  · simp at h1
    have hil : i < kws.length := by show i < 17; omega
    have hki : kws[i]? = some kws[i] := by simp [hil]
    conv => whnf
    refine ⟨by omega, by show (i : Int) < 17; omega, _, part_strs kws i kws[i] hki, ?_⟩
    conv => whnf
    cases h2 : (t == kws[i])
    · conv => whnf
      refine WpR.next (ih ⟨i + 1, by omega, fun j x hj hx => ?_⟩ (by show 17 - (i + 1) < 17 - i; omega)) ⟨rfl, rfl, ?_, trivial⟩
      · rcases Nat.lt_or_ge j i with h | h
        · exact hno j x h hx
        · have : j = i := by omega
          subst this
          rw [hki] at hx; injection hx with hx; rw [← hx]; exact h2
      · exact slot_succ (i := i) (by omega)
    · conv => whnf
      exact ⟨by show LV.bool true = _; rw [show keywordF t = true from any_true _ _ i kws[i] hki h2], SubS.self _ _ _⟩

def dks : List (List UInt8) := [[118, 97, 114], [119, 105, 100, 101], [97, 116, 111, 109, 105, 99], [108, 111, 99, 97, 108], [109, 117, 116, 101, 120], [99, 104, 97, 110]]
def firstAt (t : List UInt8) : Nat → List (List UInt8) → Int
  | _, [] => 0
  | i, k :: r => if t == k then IntKind.i64.wrap (1 + (i : Int)) else firstAt t (i + 1) r
def declKindF (t : List UInt8) : Int := firstAt t 0 dks
theorem firstAt_drop (t : List UInt8) : ∀ (l : List (List UInt8)) (i : Nat) (j : Nat), (∀ (q : Nat) x, q < i → l[q]? = some x → (t == x) = false) → firstAt t j l = firstAt t (j + i) (l.drop i)
  | l, 0, j, _ => rfl
  | [], i + 1, j, _ => by simp [firstAt]
  | x :: r, i + 1, j, h => by
    have h0 := h 0 x (by omega) rfl
    simp only [firstAt, h0, Bool.false_eq_true, if_false, List.drop_succ_cons]
    rw [firstAt_drop t r i (j + 1) fun q y hq hy => h (q + 1) y (by omega) hy]
    congr 1; omega

theorem declKind (t : List UInt8) (s : LS) : Holds P 31 [.str t] s (.int .i64 (declKindF t)) s := by
  refine Holds.walk Eok Go.Proofs.Try.func31 rfl rfl (by exact Nat.le_of_ble_eq_true rfl) ?_
  conv => whnf
  refine WpR.rule Eok (α := { i : Nat // i ≤ 6 ∧ ∀ (j : Nat) x, j < i → dks[j]? = some x → (t == x) = false }) (fun i => [(0, .str t), (5, .agg (dks.map LV.str)), (6, .int .i64 i.1)]) (fun _ => s) (fun i => 6 - i.1) ⟨0, by omega, by intro j x h; omega⟩ ?_ ⟨rfl, rfl, rfl, trivial⟩ rfl
  rintro ⟨i, hi, hno⟩ ih
  have hd := firstAt_drop t dks i 0 hno
  conv => whnf
  cases h1 : decide ((i : Int) < 6)
  · simp at h1
    conv => whnf
    refine ⟨?_, SubS.self _ _ _⟩
    have : i = 6 := by omega
    subst this
    unfold declKindF
    rw [hd]; rfl
  · simp at h1
    have hil : i < dks.length := by show i < 6; omega
    have hki : dks[i]? = some dks[i] := by simp [hil]
    rw [List.drop_eq_getElem_cons hil] at hd
    conv => whnf
    refine ⟨by omega, by show (i : Int) < 6; omega, _, part_strs dks i dks[i] hki, ?_⟩
    conv => whnf
    cases h2 : (t == dks[i])
    · conv => whnf
      refine WpR.next (ih ⟨i + 1, by omega, fun j x hj hx => ?_⟩ (by show 6 - (i + 1) < 6 - i; omega)) ⟨rfl, rfl, ?_, trivial⟩
      · rcases Nat.lt_or_ge j i with h | h
        · exact hno j x h hx
        · have : j = i := by omega
          subst this
          rw [hki] at hx; injection hx with hx; rw [← hx]; exact h2
      · exact slot_succ (i := i) (by omega)
    · conv => whnf
      refine ⟨?_, SubS.self _ _ _⟩
      unfold declKindF
      rw [hd]
      simp only [firstAt, h2, if_true, Nat.zero_add]

/-! ### number -/
def numLoop : List UInt8 → Int → Int × Bool
  | [], n => (n, true)
  | c :: r, n =>
    let d := IntKind.i64.wrap (IntKind.u8.wrap ((c.toNat : Int) - 48))
    if n > IntKind.i64.wrap ((IntKind.i64.wrap (9223372036854775807 - d)).tdiv 10) then (0, false) else numLoop r (IntKind.i64.wrap (IntKind.i64.wrap (10 * n) + d))
def numberF (t : List UInt8) : Int × Bool :=
  match numLoop t 0 with
  | (n, false) => (n, false)
  | (n, true) => (n, !(t == []) && (!((t.headD 0).toNat == 48) || t == [48]))

theorem number (t : List UInt8) (hl : t.length < 4611686018427387904) (s : LS) : Holds P 67 [.str t] s (.tup [.int .i64 (numberF t).1, .bool (numberF t).2]) s := by
  refine Holds.walk Eok Go.Proofs.Try.func67 rfl rfl (by exact Nat.le_of_ble_eq_true rfl) ?_
  conv => whnf
  refine WpR.rule Eok (α := { p : Nat × Int // p.1 ≤ t.length ∧ numLoop t 0 = numLoop (t.drop p.1) p.2 }) (fun p => [(0, .str t), (4, .int .i64 p.1.2), (5, .int .i64 p.1.1)]) (fun _ => s) (fun p => t.length - p.1.1) ⟨(0, 0), Nat.zero_le _, rfl⟩ ?_ ⟨rfl, rfl, rfl, trivial⟩ rfl
  rintro ⟨⟨i, n⟩, hi, hn⟩ ih
  simp only at hi hn
  conv => whnf
  cases h1 : decide ((i : Int) < t.length)
  · simp at h1
    have : i = t.length := by omega
    subst this
    rw [List.drop_length] at hn
    simp only [numLoop] at hn
    conv => whnf
    cases h2 : (!(t == []))
    · conv => whnf
      refine ⟨?_, SubS.self _ _ _⟩
      simp only [numberF, hn, h2]; rfl
    · conv => whnf
      obtain ⟨c, r, rfl⟩ : ∃ c r, t = c :: r := by
        cases t with
        | nil => simp at h2
        | cons c r => exact ⟨c, r, rfl⟩
      refine ⟨by omega, c, rfl, ?_⟩
      conv => whnf
      cases h3 : ((c.toNat : Int) != 48)
      · conv => whnf
        cases h4 : (c :: r == [48])
        · conv => whnf
          refine ⟨?_, SubS.self _ _ _⟩
          have h3' : (c.toNat == 48) = true := by simp at h3 ⊢; omega
          simp only [numberF, hn, h2, h4, List.headD_cons, h3']; rfl
        · conv => whnf
          refine ⟨?_, SubS.self _ _ _⟩
          simp only [numberF, hn, h2, h4]; simp
      · conv => whnf
        refine ⟨?_, SubS.self _ _ _⟩
        have h3' : (c.toNat == 48) = false := by
          cases h : (c.toNat == 48) with
          | false => rfl
          | true => simp at h h3; omega
        simp only [numberF, hn, h2, List.headD_cons, h3']; rfl
  · simp at h1
    have hil : i < t.length := by omega
    rw [List.drop_eq_getElem_cons hil] at hn
    conv => whnf
    refine ⟨by omega, t[i], by simp [hil], ?_⟩
    conv => whnf
    refine ⟨by decide, ?_⟩
    conv => whnf
    simp only [numLoop] at hn
    cases h2 : decide (n > IntKind.i64.wrap ((IntKind.i64.wrap (9223372036854775807 - IntKind.i64.wrap (IntKind.u8.wrap ((t[i].toNat : Int) - 48)))).tdiv 10))
    · conv => whnf
      have h2 := of_decide_eq_false h2
      rw [if_neg h2] at hn
      refine WpR.next (ih ⟨(i + 1, _), by show i + 1 ≤ _; omega, hn⟩ (by show t.length - (i + 1) < t.length - i; omega)) ⟨rfl, rfl, ?_, trivial⟩
      exact slot_succ (i := i) (by omega)
    · conv => whnf
      have h2 := of_decide_eq_true h2
      rw [if_pos h2] at hn
      refine ⟨?_, SubS.self _ _ _⟩
      simp only [numberF, hn]
end Ts
