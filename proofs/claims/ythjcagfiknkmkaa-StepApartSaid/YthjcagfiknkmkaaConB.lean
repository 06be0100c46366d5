/- Contracts, 2: tokens. -/
import Derived.Test.YthjcagfiknkmkaaConA
namespace Ts
open Go Den
set_option maxRecDepth 100000
set_option linter.unusedSimpArgs false
set_option linter.unusedVariables false

structure Tok where
  kind : Int
  text : List UInt8
  n : Int
  at' : Int
def Tok.enc (t : Tok) : LV := .agg [.int .i64 t.kind, .str t.text, .int .i64 t.n, .int .i64 t.at']
def tok0 : Tok := ⟨0, [], 0, 0⟩

/-- How far a scan goes. -/
def scanTo (p : Int → Bool) (l : List UInt8) (i : Nat) : Nat := i + ((l.drop i).takeWhile fun c => p c.toNat).length
theorem scan_go {p : Int → Bool} {l : List UInt8} {i : Nat} (h : i < l.length) (hp : p l[i].toNat = true) : scanTo p l i = scanTo p l (i + 1) := by
  unfold scanTo
  rw [List.drop_eq_getElem_cons h, List.takeWhile_cons, hp]
  simp; omega
theorem scan_stop {p : Int → Bool} {l : List UInt8} {i : Nat} (h : i < l.length) (hp : p l[i].toNat = false) : scanTo p l i = i := by
  unfold scanTo
  rw [List.drop_eq_getElem_cons h, List.takeWhile_cons, hp]
  simp
theorem scan_end {p : Int → Bool} {l : List UInt8} {i : Nat} (h : l.length ≤ i) : scanTo p l i = i := by
  unfold scanTo
  rw [List.drop_eq_nil_of_le h]; simp
theorem scan_le {p : Int → Bool} {l : List UInt8} {i : Nat} (h : i ≤ l.length) : i ≤ scanTo p l i ∧ scanTo p l i ≤ l.length := by
  unfold scanTo
  refine ⟨by omega, ?_⟩
  have := (List.takeWhile_sublist (fun c : UInt8 => p c.toNat) (l := l.drop i)).length_le
  simp at this; omega

def wordP (c : Int) : Bool := letterF c || digitF c
def signs : List UInt8 := [61, 60, 43, 45, 42, 47, 37, 40, 41, 123, 125]

def oneF (l : List UInt8) (i : Nat) (c : UInt8) : Tok × Int :=
  if letterF c.toNat then
    let to := scanTo wordP l (i + 1)
    if (to : Int) - i > 12 then (tok0, 0) else (⟨1, (l.take to).drop i, 0, i⟩, (to : Int) - i)
  else if digitF c.toNat then
    let to := scanTo digitF l (i + 1)
    let n := numberF ((l.take to).drop i)
    if n.2 then (⟨2, (l.take to).drop i, n.1, i⟩, (to : Int) - i) else (tok0, 0)
  else if c = 61 ∧ l[i + 1]? = some 61 then (⟨3, [61, 61], 0, i⟩, 2)
  else if signs.any (fun x => (x.toNat : Int) == c.toNat) then (⟨3, (l.take (i + 1)).drop i, 0, i⟩, 1)
  else (tok0, 0)

theorem wrap_sub {i j : Nat} (h : j ≤ i) (hi : i < 4611686018427387904) : IntKind.i64.wrap ((i : Int) - j) = (i : Int) - j := by rw [wrap_id] <;> omega
theorem wrap_add1 {i : Nat} (hi : i < 4611686018427387904) : IntKind.i64.wrap ((i : Int) + 1) = ((i + 1 : Nat) : Int) := by rw [wrap_id] <;> omega

set_option maxHeartbeats 4000000 in
theorem one (l : List UInt8) (i : Nat) (c : UInt8) (hc : l[i]? = some c) (hl : l.length < 4611686018427387904) (s : LS) :
    Holds P 50 [.str l, .int .i64 i] s (.tup [(oneF l i c).1.enc, .int .i64 (oneF l i c).2]) s := by
  have hi := lt_len hc
  refine Holds.walkP Eok Go.Proofs.Try.func50 rfl rfl (by exact Nat.le_of_ble_eq_true rfl) (refs_all rfl) (LV.bare_refs _ rfl) ?_ s
  conv => whnf
  refine ⟨by omega, c, hc, ?_⟩
  conv => whnf
  refine ⟨_, _, letter _ _, ?_⟩
  rw [wrap_add1 (by omega)]
  conv => whnf
  have hlt : i + 1 ≤ l.length := by omega
  cases h1 : letterF c.toNat
  · conv => whnf
    refine ⟨_, _, digit _ _, ?_⟩
    conv => whnf
    cases h2 : digitF c.toNat
    · conv => whnf
      cases h3 : ((c.toNat : Int) == 61)
      · have hno : ¬ (c = 61 ∧ l[i + 1]? = some 61) := by
          rintro ⟨h, _⟩
          rw [h] at h3; simp at h3
        conv => whnf
        refine WpR.rule Eok (α := { k : Nat // k ≤ 11 ∧ ∀ (j : Nat) x, j < k → signs[j]? = some x → ((x.toNat : Int) == c.toNat) = false }) (fun k => [(0, .str l), (1, .int .i64 i), (4, .bptr 0 0), (5, .int .i64 0), (6, .int .u8 c.toNat), (7, .int .i64 ((i + 1 : Nat) : Int)), (10, .int .i64 k.1)])
          (fun _ => LS.empty.alloc (.box tok0.enc 73)) (fun k => 11 - k.1) ⟨0, by omega, by intro j x h; omega⟩ ?_ ⟨rfl, rfl, rfl, rfl, rfl, rfl, rfl, trivial⟩ rfl
        rintro ⟨k, hk, hks⟩ ih
        conv => whnf
        cases h6 : decide ((k : Int) < 11)
        · simp at h6
          conv => whnf
          refine FinP.same (LV.bare_refs _ rfl) ?_
          have hs : signs.any (fun x => (x.toNat : Int) == c.toNat) = false := any_false _ _ fun j x hx => hks j x (by have h1 := lt_len hx; have h2 : signs.length = 11 := rfl; omega) hx
          simp only [oneF, h1, h2, hno, hs, Bool.false_eq_true, if_false]; rfl
        · simp at h6
          have hkl : k < signs.length := by show k < 11; omega
          have hk' : signs[k]? = some signs[k] := by simp [hkl]
          conv => whnf
          refine ⟨by omega, signs[k], hk', ?_⟩
          conv => whnf
          cases h7 : ((signs[k].toNat : Int) == c.toNat)
          · conv => whnf
            refine WpR.next (ih ⟨k + 1, by omega, fun j x hj hx => ?_⟩ (by show 11 - (k + 1) < 11 - k; omega)) ⟨rfl, rfl, rfl, rfl, rfl, rfl, slot_succ (i := k) (by omega), trivial⟩
            rcases Nat.lt_or_ge j k with h | h
            · exact hks j x h hx
            · have : j = k := by omega
              subst this
              rw [hk'] at hx; injection hx with hx; rw [← hx]; exact h7
          · conv => whnf
            refine ⟨True.intro, ?_⟩
            conv => whnf
            refine ⟨by (first | omega | (dsimp only; omega)), by (first | omega | (dsimp only; omega)), by (first | omega | (dsimp only; omega)), ?_⟩
            conv => whnf
            refine FinP.same (LV.bare_refs _ rfl) ?_
            have hs : signs.any (fun x => (x.toNat : Int) == c.toNat) = true := any_true _ _ k _ hk' h7
            simp only [oneF, h1, h2, hno, hs, Bool.false_eq_true, if_false, if_true]; rfl
      · conv => whnf
        have hc61 : c = 61 := by
          have : (c.toNat : Int) = 61 := by simpa using h3
          exact UInt8.toNat_inj.1 (by show c.toNat = 61; omega)
        cases h4 : decide (((i + 1 : Nat) : Int) < l.length)
        · simp at h4
          have hno : ¬ (c = 61 ∧ l[i + 1]? = some 61) := by
            rintro ⟨_, h⟩
            have := lt_len h; omega
          conv => whnf
          refine WpR.rule Eok (α := { k : Nat // k ≤ 11 ∧ ∀ (j : Nat) x, j < k → signs[j]? = some x → ((x.toNat : Int) == c.toNat) = false }) (fun k => [(0, .str l), (1, .int .i64 i), (4, .bptr 0 0), (5, .int .i64 0), (6, .int .u8 c.toNat), (7, .int .i64 ((i + 1 : Nat) : Int)), (10, .int .i64 k.1)])
            (fun _ => LS.empty.alloc (.box tok0.enc 73)) (fun k => 11 - k.1) ⟨0, by omega, by intro j x h; omega⟩ ?_ ⟨rfl, rfl, rfl, rfl, rfl, rfl, rfl, trivial⟩ rfl
          rintro ⟨k, hk, hks⟩ ih
          conv => whnf
          cases h6 : decide ((k : Int) < 11)
          · simp at h6
            conv => whnf
            refine FinP.same (LV.bare_refs _ rfl) ?_
            have hs : signs.any (fun x => (x.toNat : Int) == c.toNat) = false := any_false _ _ fun j x hx => hks j x (by have h1 := lt_len hx; have h2 : signs.length = 11 := rfl; omega) hx
            simp only [oneF, h1, h2, hno, hs, Bool.false_eq_true, if_false]; rfl
          · simp at h6
            have hkl : k < signs.length := by show k < 11; omega
            have hk' : signs[k]? = some signs[k] := by simp [hkl]
            conv => whnf
            refine ⟨by omega, signs[k], hk', ?_⟩
            conv => whnf
            cases h7 : ((signs[k].toNat : Int) == c.toNat)
            · conv => whnf
              refine WpR.next (ih ⟨k + 1, by omega, fun j x hj hx => ?_⟩ (by show 11 - (k + 1) < 11 - k; omega)) ⟨rfl, rfl, rfl, rfl, rfl, rfl, slot_succ (i := k) (by omega), trivial⟩
              rcases Nat.lt_or_ge j k with h | h
              · exact hks j x h hx
              · have : j = k := by omega
                subst this
                rw [hk'] at hx; injection hx with hx; rw [← hx]; exact h7
            · conv => whnf
              refine ⟨True.intro, ?_⟩
              conv => whnf
              refine ⟨by (first | omega | (dsimp only; omega)), by (first | omega | (dsimp only; omega)), by (first | omega | (dsimp only; omega)), ?_⟩
              conv => whnf
              refine FinP.same (LV.bare_refs _ rfl) ?_
              have hs : signs.any (fun x => (x.toNat : Int) == c.toNat) = true := any_true _ _ k _ hk' h7
              simp only [oneF, h1, h2, hno, hs, Bool.false_eq_true, if_false, if_true]; rfl
        · simp at h4
          have h4' : i + 1 < l.length := by omega
          conv => whnf
          refine ⟨by omega, l[i + 1], by simp [h4'], ?_⟩
          conv => whnf
          cases h5 : ((l[i + 1].toNat : Int) == 61)
          · have hno : ¬ (c = 61 ∧ l[i + 1]? = some 61) := by
              rintro ⟨_, h⟩
              rw [List.getElem?_eq_getElem h4'] at h
              injection h with h; rw [h] at h5; simp at h5
            conv => whnf
            refine WpR.rule Eok (α := { k : Nat // k ≤ 11 ∧ ∀ (j : Nat) x, j < k → signs[j]? = some x → ((x.toNat : Int) == c.toNat) = false }) (fun k => [(0, .str l), (1, .int .i64 i), (4, .bptr 0 0), (5, .int .i64 0), (6, .int .u8 c.toNat), (7, .int .i64 ((i + 1 : Nat) : Int)), (10, .int .i64 k.1)])
              (fun _ => LS.empty.alloc (.box tok0.enc 73)) (fun k => 11 - k.1) ⟨0, by omega, by intro j x h; omega⟩ ?_ ⟨rfl, rfl, rfl, rfl, rfl, rfl, rfl, trivial⟩ rfl
            rintro ⟨k, hk, hks⟩ ih
            conv => whnf
            cases h6 : decide ((k : Int) < 11)
            · simp at h6
              conv => whnf
              refine FinP.same (LV.bare_refs _ rfl) ?_
              have hs : signs.any (fun x => (x.toNat : Int) == c.toNat) = false := any_false _ _ fun j x hx => hks j x (by have h1 := lt_len hx; have h2 : signs.length = 11 := rfl; omega) hx
              simp only [oneF, h1, h2, hno, hs, Bool.false_eq_true, if_false]; rfl
            · simp at h6
              have hkl : k < signs.length := by show k < 11; omega
              have hk' : signs[k]? = some signs[k] := by simp [hkl]
              conv => whnf
              refine ⟨by omega, signs[k], hk', ?_⟩
              conv => whnf
              cases h7 : ((signs[k].toNat : Int) == c.toNat)
              · conv => whnf
                refine WpR.next (ih ⟨k + 1, by omega, fun j x hj hx => ?_⟩ (by show 11 - (k + 1) < 11 - k; omega)) ⟨rfl, rfl, rfl, rfl, rfl, rfl, slot_succ (i := k) (by omega), trivial⟩
                rcases Nat.lt_or_ge j k with h | h
                · exact hks j x h hx
                · have : j = k := by omega
                  subst this
                  rw [hk'] at hx; injection hx with hx; rw [← hx]; exact h7
              · conv => whnf
                refine ⟨True.intro, ?_⟩
                conv => whnf
                refine ⟨by (first | omega | (dsimp only; omega)), by (first | omega | (dsimp only; omega)), by (first | omega | (dsimp only; omega)), ?_⟩
                conv => whnf
                refine FinP.same (LV.bare_refs _ rfl) ?_
                have hs : signs.any (fun x => (x.toNat : Int) == c.toNat) = true := any_true _ _ k _ hk' h7
                simp only [oneF, h1, h2, hno, hs, Bool.false_eq_true, if_false, if_true]; rfl
          · conv => whnf
            have h61 : l[i + 1]? = some 61 := by
              have : (l[i + 1].toNat : Int) = 61 := by simpa using h5
              rw [List.getElem?_eq_getElem h4', show l[i + 1] = 61 from UInt8.toNat_inj.1 (by show l[i + 1].toNat = 61; omega)]
            refine FinP.same (LV.bare_refs _ rfl) ?_
            simp only [oneF, h1, h2, Bool.false_eq_true, if_false, hc61, h61, and_self, if_true]; rfl
    · conv => whnf
      refine WpR.rule Eok (α := { j : Nat // i < j ∧ j ≤ l.length ∧ scanTo digitF l (i + 1) = scanTo digitF l j }) (fun j => [(0, .str l), (1, .int .i64 i), (4, .bptr 0 0), (5, .int .i64 0), (7, .int .i64 j.1)])
        (fun _ => LS.empty.alloc (.box tok0.enc 73)) (fun j => l.length - j.1) ⟨i + 1, by omega, by omega, rfl⟩ ?_ ⟨rfl, rfl, rfl, rfl, rfl, trivial⟩ rfl
      rintro ⟨j, hj1, hj2, hj3⟩ ih
      conv => whnf
      cases h3 : decide ((j : Int) < l.length)
      · simp at h3
        have ht : scanTo digitF l (i + 1) = j := by rw [hj3]; exact scan_end (by omega)
        conv => whnf
        refine ⟨True.intro, ?_⟩
        conv => whnf
        refine ⟨by (first | omega | (dsimp only; omega)), by (first | omega | (dsimp only; omega)), by (first | omega | (dsimp only; omega)), ?_⟩
        conv => whnf
        refine ⟨_, _, number _ (by simp; omega) _, ?_⟩
        conv => whnf
        cases h5 : (numberF ((l.take j).drop i)).2
        · have h5' : (numberF (List.drop (Int.toNat ↑i) (List.take (Int.toNat ↑j) l))).2 = false := by simpa using h5
          rw [h5']
          conv => whnf
          refine FinP.same (LV.bare_refs _ rfl) ?_
          simp only [oneF, h1, h2, ht, h5, Bool.false_eq_true, if_false, if_true]; rfl
        · have h5' : (numberF (List.drop (Int.toNat ↑i) (List.take (Int.toNat ↑j) l))).2 = true := by simpa using h5
          rw [h5']
          conv => whnf
          refine ⟨True.intro, ?_⟩
          conv => whnf
          refine ⟨by (first | omega | (dsimp only; omega)), by (first | omega | (dsimp only; omega)), by (first | omega | (dsimp only; omega)), ?_⟩
          conv => whnf
          refine FinP.same (LV.bare_refs _ rfl) ?_
          simp only [oneF, h1, h2, ht, h5, Bool.false_eq_true, if_false, if_true]
          show LV.tup [_, LV.int .i64 (IntKind.i64.wrap ((j : Int) - (i : Int)))] = LV.tup [_, LV.int .i64 ((j : Int) - i)]
          rw [wrap_sub (i := j) (j := i) (by omega) (by omega)]; rfl
      · simp at h3
        have h3' : j < l.length := by omega
        conv => whnf
        refine ⟨by omega, l[j], by simp [h3'], ?_⟩
        conv => whnf
        refine ⟨_, _, digit _ _, ?_⟩
        conv => whnf
        cases h4 : digitF l[j].toNat
        · have ht : scanTo digitF l (i + 1) = j := by rw [hj3]; exact scan_stop h3' h4
          conv => whnf
          refine ⟨True.intro, ?_⟩
          conv => whnf
          refine ⟨by (first | omega | (dsimp only; omega)), by (first | omega | (dsimp only; omega)), by (first | omega | (dsimp only; omega)), ?_⟩
          conv => whnf
          refine ⟨_, _, number _ (by simp; omega) _, ?_⟩
          conv => whnf
          cases h5 : (numberF ((l.take j).drop i)).2
          · have h5' : (numberF (List.drop (Int.toNat ↑i) (List.take (Int.toNat ↑j) l))).2 = false := by simpa using h5
            rw [h5']
            conv => whnf
            refine FinP.same (LV.bare_refs _ rfl) ?_
            simp only [oneF, h1, h2, ht, h5, Bool.false_eq_true, if_false, if_true]; rfl
          · have h5' : (numberF (List.drop (Int.toNat ↑i) (List.take (Int.toNat ↑j) l))).2 = true := by simpa using h5
            rw [h5']
            conv => whnf
            refine ⟨True.intro, ?_⟩
            conv => whnf
            refine ⟨by (first | omega | (dsimp only; omega)), by (first | omega | (dsimp only; omega)), by (first | omega | (dsimp only; omega)), ?_⟩
            conv => whnf
            refine FinP.same (LV.bare_refs _ rfl) ?_
            simp only [oneF, h1, h2, ht, h5, Bool.false_eq_true, if_false, if_true]
            show LV.tup [_, LV.int .i64 (IntKind.i64.wrap ((j : Int) - (i : Int)))] = LV.tup [_, LV.int .i64 ((j : Int) - i)]
            rw [wrap_sub (i := j) (j := i) (by omega) (by omega)]; rfl
        · conv => whnf
          exact WpR.next (ih ⟨j + 1, by omega, by omega, by rw [hj3]; exact scan_go h3' h4⟩ (by show l.length - (j + 1) < l.length - j; omega)) ⟨rfl, rfl, rfl, rfl, slot_succ (i := j) (by omega), trivial⟩
  · conv => whnf
    refine WpR.rule Eok (α := { j : Nat // i < j ∧ j ≤ l.length ∧ scanTo wordP l (i + 1) = scanTo wordP l j }) (fun j => [(0, .str l), (1, .int .i64 i), (4, .bptr 0 0), (5, .int .i64 0), (7, .int .i64 j.1)])
      (fun _ => LS.empty.alloc (.box tok0.enc 73)) (fun j => l.length - j.1) ⟨i + 1, by omega, by omega, rfl⟩ ?_ ⟨rfl, rfl, rfl, rfl, rfl, trivial⟩ rfl
    rintro ⟨j, hj1, hj2, hj3⟩ ih
    conv => whnf
    cases h3 : decide ((j : Int) < l.length)
    · simp at h3
      have ht : scanTo wordP l (i + 1) = j := by rw [hj3]; exact scan_end (by omega)
      conv => whnf
      have hw := wrap_sub (i := j) (j := i) (by omega) (by omega)
      cases h5 : decide (IntKind.i64.wrap ((j : Int) - i) > 12)
      · conv => whnf
        rw [hw] at h5
        have h5 := of_decide_eq_false h5
        refine ⟨True.intro, ?_⟩
        conv => whnf
        refine ⟨by (first | omega | (dsimp only; omega)), by (first | omega | (dsimp only; omega)), by (first | omega | (dsimp only; omega)), ?_⟩
        conv => whnf
        refine FinP.same (LV.bare_refs _ rfl) ?_
        simp only [oneF, h1, ht, h5, Bool.false_eq_true, if_false, if_true]
        show LV.tup [_, LV.int .i64 (IntKind.i64.wrap ((j : Int) - (i : Int)))] = LV.tup [_, LV.int .i64 ((j : Int) - i)]
        rw [hw]; rfl
      · conv => whnf
        rw [hw] at h5
        have h5 := of_decide_eq_true h5
        refine FinP.same (LV.bare_refs _ rfl) ?_
        simp only [oneF, h1, ht, h5, Bool.false_eq_true, if_false, if_true]; rfl
    · simp at h3
      have h3' : j < l.length := by omega
      conv => whnf
      refine ⟨by omega, l[j], by simp [h3'], ?_⟩
      conv => whnf
      refine ⟨_, _, letter _ _, ?_⟩
      conv => whnf
      cases h4 : letterF l[j].toNat
      · conv => whnf
        refine ⟨by omega, l[j], by simp [h3'], ?_⟩
        conv => whnf
        refine ⟨_, _, digit _ _, ?_⟩
        conv => whnf
        cases h5 : digitF l[j].toNat
        · have ht : scanTo wordP l (i + 1) = j := by rw [hj3]; exact scan_stop h3' (by simp [wordP, h4, h5])
          conv => whnf
          have hw := wrap_sub (i := j) (j := i) (by omega) (by omega)
          cases h5 : decide (IntKind.i64.wrap ((j : Int) - i) > 12)
          · conv => whnf
            rw [hw] at h5
            have h5 := of_decide_eq_false h5
            refine ⟨True.intro, ?_⟩
            conv => whnf
            refine ⟨by (first | omega | (dsimp only; omega)), by (first | omega | (dsimp only; omega)), by (first | omega | (dsimp only; omega)), ?_⟩
            conv => whnf
            refine FinP.same (LV.bare_refs _ rfl) ?_
            simp only [oneF, h1, ht, h5, Bool.false_eq_true, if_false, if_true]
            show LV.tup [_, LV.int .i64 (IntKind.i64.wrap ((j : Int) - (i : Int)))] = LV.tup [_, LV.int .i64 ((j : Int) - i)]
            rw [hw]; rfl
          · conv => whnf
            rw [hw] at h5
            have h5 := of_decide_eq_true h5
            refine FinP.same (LV.bare_refs _ rfl) ?_
            simp only [oneF, h1, ht, h5, Bool.false_eq_true, if_false, if_true]; rfl
        · conv => whnf
          exact WpR.next (ih ⟨j + 1, by omega, by omega, by rw [hj3]; exact scan_go h3' (by simp [wordP, h5])⟩ (by show l.length - (j + 1) < l.length - j; omega)) ⟨rfl, rfl, rfl, rfl, slot_succ (i := j) (by omega), trivial⟩
      · conv => whnf
        exact WpR.next (ih ⟨j + 1, by omega, by omega, by rw [hj3]; exact scan_go h3' (by simp [wordP, h4])⟩ (by show l.length - (j + 1) < l.length - j; omega)) ⟨rfl, rfl, rfl, rfl, slot_succ (i := j) (by omega), trivial⟩
end Ts
