/- Alarms of the week as plain lists. Conditions: none. -/
import Derived.Test.YtiaapecdhcibnaaS9
set_option linter.unusedSimpArgs false
set_option linter.unnecessarySimpa false
set_option linter.unusedVariables false
namespace Go.Wk
open Go Go.Sp
structure Alarm where
  id : Int
  minute : Int
  days : Int
  off : Bool
def encA (a : Alarm) : List Value := [.int .i64 a.id, .int .i64 a.minute, .int .i64 a.days, .bool a.off]
def a0 : Alarm := ⟨0, 0, 0, false⟩
def cmpI (x y : Int) : Int := if x < y then -1 else if y < x then 1 else 0
theorem cmpI_lt {x y : Int} (h : x < y) : cmpI x y = -1 := by simp [cmpI, h]
theorem cmpI_gt {x y : Int} (h : x > y) : cmpI x y = 1 := by simp [cmpI, h, show ¬ x < y by omega]
theorem cmpI_eq {x y : Int} (h1 : ¬ x < y) (h2 : ¬ x > y) : cmpI x y = 0 := by simp [cmpI, h1, show ¬ y < x by omega]
def rightA (a : Alarm) : Bool := decide (0 ≤ a.minute ∧ a.minute < 1440 ∧ 0 < a.days ∧ a.days < 128)
/-- does it ring at a minute of the week? -/
def ringsA (a : Alarm) (m : Int) : Bool := !a.off && decide (m % 1440 = a.minute) && decide (a.days / 2 ^ (m / 1440).toNat % 2 = 1)
theorem div_pow {d : Int} {k : Nat} (h0 : 0 ≤ d) (h1 : d < 128) : 0 ≤ d / 2 ^ k ∧ d / 2 ^ k < 128 := by
  have h2 : (0 : Int) < 2 ^ k := Int.pow_pos (by omega)
  have h3 := Int.ediv_nonneg h0 (Int.le_of_lt h2)
  have h4 := Int.ediv_le_self (2 ^ k) h0
  omega
theorem cmpI_nn {x y : Int} (h : cmpI x y ≥ 0) : y ≤ x := by unfold cmpI at h; split at h <;> omega
theorem cmpI_neg {x y : Int} (h : cmpI x y < 0) : x < y := by
  unfold cmpI at h; split at h
  · assumption
  · split at h <;> omega
/-- where a number stands in a row, or would -/
def PosA (l : List Alarm) (t : Int) (k : Nat) : Prop := k ≤ l.length ∧ (∀ q, q < k → (l.getD q a0).id < t) ∧ ∀ q, k ≤ q → q < l.length → t ≤ (l.getD q a0).id
def foundA (l : List Alarm) (t : Int) (k : Nat) : Bool := decide (k < l.length ∧ (l.getD k a0).id = t)
theorem foundA_no {l : List Alarm} {t : Int} {k n : Nat} (hl : l.length = n) (h : n ≤ k) : foundA l t k = false := by
  unfold foundA; rw [decide_eq_false_iff_not]; omega
theorem foundA_cmp {l : List Alarm} {t : Int} {k n : Nat} (hl : l.length = n) (h : k < n) : foundA l t k = (cmpI (l.getD k a0).id t == 0) := by
  unfold foundA; rw [Bool.eq_iff_iff, decide_eq_true_eq, beq_iff_eq]; unfold cmpI
  constructor
  · rintro ⟨_, h⟩; rw [h, if_neg (by omega), if_neg (by omega)]
  · intro h; refine ⟨by omega, ?_⟩
    split at h
    · omega
    · split at h <;> omega
/-! ### the set -/
structure GoodA (l : List Alarm) : Prop where
  sort : ∀ p q, p < q → q < l.length → (l.getD p a0).id < (l.getD q a0).id
  right : ∀ p, p < l.length → rightA (l.getD p a0) = true
  len : l.length ≤ 64
def hasA (l : List Alarm) (t : Int) : Bool := l.any (fun a => a.id == t)
def posA (l : List Alarm) (t : Int) : Nat := (l.takeWhile (fun a => decide (a.id < t))).length
theorem getD_mem {l : List Alarm} {k : Nat} (h : k < l.length) : l.getD k a0 ∈ l := by simp [h]
theorem posA_is : ∀ {l : List Alarm} {t : Int} {k : Nat}, PosA l t k → posA l t = k
  | [], t, k, h => by have := h.1; simp at this; subst this; rfl
  | a :: r, t, 0, h => by
    have := h.2.2 0 (by omega) (by simp)
    simp at this
    simp [posA, List.takeWhile_cons, show ¬ a.id < t by omega]
  | a :: r, t, k + 1, h => by
    have h0 := h.2.1 0 (by omega)
    simp at h0
    have ih := posA_is (l := r) (t := t) (k := k) ⟨by have := h.1; simp at this; omega, fun q hq => by have := h.2.1 (q + 1) (by omega); simpa using this, fun q h1 h2 => by have := h.2.2 (q + 1) (by omega) (by simpa using h2); simpa using this⟩
    unfold posA at ih ⊢
    rw [List.takeWhile_cons, if_pos (by simpa using h0), List.length_cons, ih]
theorem hasA_is {l : List Alarm} {t : Int} {k : Nat} (h : PosA l t k) (hs : ∀ p q, p < q → q < l.length → (l.getD p a0).id < (l.getD q a0).id) : foundA l t k = hasA l t := by
  rw [Bool.eq_iff_iff]
  unfold foundA hasA
  rw [decide_eq_true_eq, List.any_eq_true]
  constructor
  · rintro ⟨h1, h2⟩; exact ⟨_, getD_mem h1, by simpa using h2⟩
  · rintro ⟨x, hx, he⟩
    rw [beq_iff_eq] at he
    obtain ⟨j, hj, rfl⟩ := List.getElem_of_mem hx
    have e : l[j] = l.getD j a0 := by simp [hj]
    rw [e] at he
    rcases Nat.lt_trichotomy j k with h1 | h1 | h1
    · have := h.2.1 j h1; omega
    · subst h1; exact ⟨hj, he⟩
    · have h3 := h.2.2 k (Nat.le_refl _) (by omega)
      have := hs k j h1 hj; omega
theorem posA_pos {l : List Alarm} (hg : ∀ p q, p < q → q < l.length → (l.getD p a0).id < (l.getD q a0).id) (t : Int) : PosA l t (posA l t) := by
  have hle : ∀ (l : List Alarm), posA l t ≤ l.length := fun l => by
    unfold posA; exact (List.takeWhile_prefix _).length_le
  have h1 : ∀ (l : List Alarm) (q : Nat), q < posA l t → (l.getD q a0).id < t := by
    intro l
    induction l with
    | nil => intro q h; simp [posA] at h
    | cons a r ih =>
      intro q h
      unfold posA at h
      rw [List.takeWhile_cons] at h
      split at h
      · rename_i ha
        cases q with
        | zero => simpa using ha
        | succ q => have := ih q (by unfold posA; simpa using h); simpa using this
      · simp at h
  refine ⟨hle l, h1 l, ?_⟩
  have h2 : ∀ (l : List Alarm), posA l t < l.length → t ≤ (l.getD (posA l t) a0).id := by
    intro l
    induction l with
    | nil => intro h; simp at h
    | cons a r ih =>
      intro h
      unfold posA at h ⊢
      rw [List.takeWhile_cons] at h ⊢
      split at h
      · rename_i ha
        rw [if_pos ha]
        have := ih (by unfold posA; simpa using h)
        unfold posA at this
        simpa using this
      · rename_i ha
        rw [if_neg ha]; simp at ha ⊢; exact ha
  intro q hq hql
  have h3 := h2 l (by omega)
  rcases Nat.lt_or_eq_of_le hq with h | h
  · have := hg _ _ h hql; omega
  · rw [← h]; exact h3
theorem has_found {l : List Alarm} (hg : GoodA l) (t : Int) : hasA l t = decide (posA l t < l.length ∧ (l.getD (posA l t) a0).id = t) := (hasA_is (posA_pos hg.sort t) hg.sort).symm
theorem has_lt {l : List Alarm} (hg : GoodA l) {t : Int} (h : hasA l t = true) : posA l t < l.length := by
  rw [has_found hg, decide_eq_true_eq] at h; exact h.1
theorem pos_le (l : List Alarm) (t : Int) : posA l t ≤ l.length := by unfold posA; exact (List.takeWhile_prefix _).length_le
def addE (l : List Alarm) (a : Alarm) : Int := if rightA a = false then 2 else if hasA l a.id = true then 9 else if 64 ≤ l.length then 3 else 0
def addL (l : List Alarm) (a : Alarm) : List Alarm := if addE l a = 0 then insA l (posA l a.id) a else l
def dropL (l : List Alarm) (t : Int) : List Alarm := if hasA l t = true then l.eraseIdx (posA l t) else l
def swL (l : List Alarm) (t : Int) (off : Bool) : List Alarm := if hasA l t = true then l.set (posA l t) { l.getD (posA l t) a0 with off := off } else l
def SetC (s : Nat) (l : List Alarm) : Asn := ex fun x : Option Addr × Nat => [Cells s 50 [.slice x.1 l.length x.2], Grow x.1 x.2 30 4 l.length (l.flatMap encA)]
theorem SetC.close {s n cap : Nat} {S : Option Addr} {l : List Alarm} (hn : l.length = n) {A D : List Asn} {F : Hp} {w : World} (is : List Nat) (hp : pickAt is A = some ([Cells s 50 [.slice S n cap], Grow S cap 30 4 n (l.flatMap encA)], D)) (ho : Owns A F w) : Owns (SetC s l :: D) F w := by
  subst hn
  exact Owns.ex_in (S, cap) (Owns.perm (pickAt_perm hp) ho)
theorem SetC.open_ {s : Nat} {l : List Alarm} {r : List Asn} {F : Hp} {w : World} (ho : Owns (SetC s l :: r) F w) : ∃ x : Option Addr × Nat, Owns ([Cells s 50 [.slice x.1 l.length x.2], Grow x.1 x.2 30 4 l.length (l.flatMap encA)] ++ r) F w := Owns.ex_out ho
/-- the numbers of those that ring at a minute -/
def ringsL (l : List Alarm) (m : Int) : List Int := (l.filter (fun a => ringsA a (m % 10080))).map Alarm.id
theorem ringsL_yes {l : List Alarm} {m : Int} {k : Nat} (hk : k < l.length) (h : ringsA (l.getD k a0) (m % 10080) = true) : ringsL (l.take k) m ++ [(l.getD k a0).id] = ringsL (l.take (k + 1)) m := by
  have e : l[k] = l.getD k a0 := by simp [hk]
  rw [List.take_succ_eq_append_getElem hk]
  simp only [ringsL, List.filter_append, List.map_append, e]
  simp [List.filter_cons] at h ⊢
  simp [h]
theorem ringsL_no {l : List Alarm} {m : Int} {k : Nat} (hk : k < l.length) (h : ringsA (l.getD k a0) (m % 10080) = false) : ringsL (l.take k) m = ringsL (l.take (k + 1)) m := by
  have e : l[k] = l.getD k a0 := by simp [hk]
  rw [List.take_succ_eq_append_getElem hk]
  simp only [ringsL, List.filter_append, List.map_append, e]
  simp at h
  simp [h]
theorem ringsL_len (l : List Alarm) (m : Int) : (ringsL l m).length ≤ l.length := by simp [ringsL, List.length_filter_le]
theorem right_days {a : Alarm} (h : rightA a = true) : 0 ≤ a.minute ∧ a.minute < 1440 ∧ 0 < a.days ∧ a.days < 128 := of_decide_eq_true h
theorem days_ok {l : List Alarm} (hg : GoodA l) {k : Nat} (hk : k < l.length) : 0 ≤ (l.getD k a0).minute ∧ (l.getD k a0).minute < 1440 ∧ 0 ≤ (l.getD k a0).days ∧ (l.getD k a0).days < 128 := by
  have := right_days (hg.right k hk); omega
theorem ringsL_take (l : List Alarm) (m : Int) (k : Nat) : (ringsL (l.take k) m).length ≤ k := Nat.le_trans (ringsL_len _ _) (by simp; omega)
theorem ringsL_all (l : List Alarm) (m : Int) {k : Nat} (hk : l.length ≤ k) : ringsL (l.take k) m = ringsL l m := by rw [List.take_of_length_le hk]
def waitA (x at_ : Int) : Int := (x - at_ - 1) % 10080 + 1
def nI (a : Alarm) (at_ : Int) (b : Int) : Nat → Int
  | 0 => b
  | d + 1 => if ringsA a ((d : Int) * 1440 + a.minute) = true ∧ (nI a at_ b d = 0 ∨ waitA ((d : Int) * 1440 + a.minute) at_ < nI a at_ b d) then waitA ((d : Int) * 1440 + a.minute) at_ else nI a at_ b d
def nO (l : List Alarm) (at_ : Int) : Nat → Int
  | 0 => 0
  | k + 1 => nI (l.getD k a0) at_ (nO l at_ k) 7
def nextN (l : List Alarm) (m : Int) : Int := nO l (m % 10080) l.length
def nextR (l : List Alarm) (m : Int) : List Int := if nextN l m = 0 then [] else ringsL l (m % 10080 + nextN l m)
theorem nI_yes {a : Alarm} {at_ b x w : Int} {d : Nat} {r : Int} (hb : nI a at_ b d = r) (hx : x = (d : Int) * 1440 + a.minute) (hw : w = waitA x at_) (h1 : ringsA a x = true) (h2 : r = 0 ∨ w < r) : nI a at_ b (d + 1) = w := by
  subst hx hw; rw [nI, hb, if_pos ⟨h1, h2⟩]
theorem nI_no {a : Alarm} {at_ b x w : Int} {d : Nat} {r : Int} (hb : nI a at_ b d = r) (hx : x = (d : Int) * 1440 + a.minute) (hw : w = waitA x at_) (h : ringsA a x = false ∨ (r ≠ 0 ∧ r ≤ w)) : nI a at_ b (d + 1) = r := by
  subst hx hw; rw [nI, hb, if_neg]
  rintro ⟨h1, h2⟩
  rcases h with h | h
  · rw [h1] at h; cases h
  · omega
theorem nI_range {a : Alarm} {at_ b : Int} (hb : 0 ≤ b ∧ b ≤ 10080) : ∀ d, 0 ≤ nI a at_ b d ∧ nI a at_ b d ≤ 10080
  | 0 => hb
  | d + 1 => by
    rw [nI]; split
    · unfold waitA; omega
    · exact nI_range hb d
theorem nO_range {l : List Alarm} {at_ : Int} : ∀ k, 0 ≤ nO l at_ k ∧ nO l at_ k ≤ 10080
  | 0 => by simp [nO]
  | k + 1 => nI_range (nO_range k) 7
/-- all that ring in c minutes, minute by minute -/
def betL (l : List Alarm) (f : Int) (c : Nat) : List Int := (List.range c).flatMap (fun i : Nat => ringsL l (f + (i : Int)))
theorem betL_step (l : List Alarm) (f : Int) (c : Nat) : betL l f c ++ ringsL l (f + c) = betL l f (c + 1) := by
  simp [betL, List.range_succ]
theorem betL_len {l : List Alarm} (hl : l.length ≤ 64) (f : Int) : ∀ c, (betL l f c).length ≤ 64 * c
  | 0 => by simp [betL]
  | c + 1 => by
    have h1 := betL_len hl f c
    have h2 := ringsL_len l (f + c)
    rw [← betL_step, List.length_append]; omega
theorem all_take {a b : List Int} {k : Nat} (h : ∀ i, i < k → a.getD i 0 = b.getD i 0) (ha : a.length ≤ k) (hl : a.length = b.length) : a = b := by
  apply List.ext_getElem hl
  intro i h1 h2
  have := h i (by omega)
  simpa [h1, h2] using this
theorem ne_at {a b : List Int} {k : Nat} (h : a.getD k 0 ≠ b.getD k 0) : decide (a = b) = false := by
  rw [decide_eq_false_iff_not]; rintro rfl; exact h rfl
theorem ne_len {a b : List Int} (h : a.length ≠ b.length) : decide (a = b) = false := by
  rw [decide_eq_false_iff_not]; rintro rfl; exact h rfl
theorem half_pow (a : Int) (j : Nat) : a / 2 ^ j / 2 = a / 2 ^ (j + 1) := by
  rw [Int.ediv_ediv_of_nonneg (by exact_mod_cast Nat.zero_le _)]; rfl
/-! ### what comes and goes -/
structure Doing where
  kind : Int
  id : Int
  minute : Int
  days : Int
  off : Bool
def encC (a : Doing) : List Value := [.int .u8 a.kind, .int .i64 a.id, .int .i64 a.minute, .int .i64 a.days, .bool a.off]
def c0 : Doing := ⟨0, 0, 0, 0, false⟩
def Doing.al (a : Doing) : Alarm := ⟨a.id, a.minute, a.days, a.off⟩
def stepA (r : List Alarm) (a : Doing) : List Alarm := if a.kind % 3 = 0 then addL r a.al else if a.kind % 3 = 1 then dropL r a.id else swL r a.id a.off
def madeL (l : List Doing) : List Alarm := l.foldl stepA []
theorem madeL_step {l : List Doing} {k : Nat} (hk : k < l.length) : madeL (l.take (k + 1)) = stepA (madeL (l.take k)) (l.getD k c0) := by
  have e : l[k] = l.getD k c0 := by simp [hk]
  rw [List.take_succ_eq_append_getElem hk, madeL, List.foldl_append, e]; rfl
theorem getD_lt {l : List Alarm} {k : Nat} (h : k < l.length) : l.getD k a0 = l[k] := by simp [h]
theorem good_nil : GoodA [] := ⟨fun p q _ h => by simp at h, fun p h => by simp at h, by simp⟩
theorem insA_getD {l : List Alarm} {k : Nat} (hk : k ≤ l.length) (a : Alarm) (i : Nat) : (insA l k a).getD i a0 = if i < k then l.getD i a0 else if i = k then a else l.getD (i - 1) a0 := by
  unfold insA
  rw [List.getD_eq_getElem?_getD, List.getElem?_append, List.length_take, Nat.min_eq_left hk]
  by_cases h1 : i < k
  · rw [if_pos h1, if_pos h1, List.getElem?_take, if_pos h1, List.getD_eq_getElem?_getD]
  · rw [if_neg h1, if_neg h1]
    by_cases h2 : i = k
    · subst h2; simp
    · rw [if_neg h2, show i - k = (i - k - 1) + 1 by omega, List.getElem?_cons_succ, List.getElem?_drop, List.getD_eq_getElem?_getD]
      congr 2; omega
theorem addL_good {l : List Alarm} {a : Alarm} (hg : GoodA l) : GoodA (addL l a) := by
  unfold addL
  split
  · rename_i h
    unfold addE at h
    split at h
    · cases h
    · rename_i hr
      split at h
      · cases h
      · rename_i hh
        split at h
        · cases h
        · rename_i hl
          have hp := posA_pos hg.sort a.id
          have hne : ∀ q, q < l.length → (l.getD q a0).id ≠ a.id := fun q hq he => hh (by
            unfold hasA; rw [List.any_eq_true]; exact ⟨_, getD_mem hq, by simpa using he⟩)
          have hlen := insA_len l (posA l a.id) a hp.1
          refine ⟨fun p q hpq hq => ?_, fun p hpl => ?_, by omega⟩
          · rw [insA_getD hp.1, insA_getD hp.1]
            rw [hlen] at hq
            by_cases h1 : p < posA l a.id
            · rw [if_pos h1]
              by_cases h2 : q < posA l a.id
              · rw [if_pos h2]; exact hg.sort p q hpq (by have := hp.1; omega)
              · rw [if_neg h2]
                by_cases h3 : q = posA l a.id
                · rw [if_pos h3]; exact hp.2.1 p h1
                · rw [if_neg h3]; exact hg.sort p (q - 1) (by omega) (by omega)
            · rw [if_neg h1, if_neg (show ¬ q < posA l a.id by omega), if_neg (show ¬ q = posA l a.id by omega)]
              by_cases h3 : p = posA l a.id
              · rw [if_pos h3]
                have h4 := hp.2.2 (q - 1) (by omega) (by omega)
                have h5 := hne (q - 1) (by omega)
                omega
              · rw [if_neg h3]; exact hg.sort (p - 1) (q - 1) (by omega) (by omega)
          · rw [insA_getD hp.1]
            rw [hlen] at hpl
            split
            · exact hg.right p (by have := hp.1; omega)
            · split
              · simpa using hr
              · exact hg.right (p - 1) (by omega)
  · exact hg
theorem dropL_good {l : List Alarm} {t : Int} (hg : GoodA l) : GoodA (dropL l t) := by
  unfold dropL
  split
  · rename_i h
    have hk := has_lt hg h
    have hl : (l.eraseIdx (posA l t)).length = l.length - 1 := by rw [List.length_eraseIdx, if_pos hk]
    have hget : ∀ i, (l.eraseIdx (posA l t)).getD i a0 = if i < posA l t then l.getD i a0 else l.getD (i + 1) a0 := fun i => by
      rw [List.getD_eq_getElem?_getD, List.getElem?_eraseIdx]
      split <;> rw [List.getD_eq_getElem?_getD]
    have := hg.len
    refine ⟨fun p q hpq hq => ?_, fun p hp => ?_, by omega⟩
    · rw [hget, hget]; split <;> split <;> exact hg.sort _ _ (by omega) (by omega)
    · rw [hget]; split <;> exact hg.right _ (by omega)
  · exact hg
theorem swL_good {l : List Alarm} {t : Int} {off : Bool} (hg : GoodA l) : GoodA (swL l t off) := by
  unfold swL
  split
  · rename_i h
    have hk := has_lt hg h
    have hget : ∀ i, i < l.length → (l.set (posA l t) { l.getD (posA l t) a0 with off := off }).getD i a0 = if i = posA l t then { l.getD (posA l t) a0 with off := off } else l.getD i a0 := fun i hi => by
      rw [List.getD_eq_getElem?_getD, List.getElem?_set]
      by_cases h1 : posA l t = i
      · rw [if_pos h1, if_pos h1.symm, if_pos (by omega)]; rfl
      · rw [if_neg h1, if_neg (fun h => h1 h.symm), List.getD_eq_getElem?_getD]
    refine ⟨fun p q hpq hq => ?_, fun p hp => ?_, by rw [List.length_set]; exact hg.len⟩
    · rw [List.length_set] at hq
      rw [hget p (by omega), hget q hq]
      have := hg.sort p q hpq hq
      split <;> split <;> simp_all
    · rw [List.length_set] at hp
      rw [hget p hp]
      split
      · have := hg.right _ hk; simpa [rightA] using this
      · exact hg.right p hp
  · exact hg
theorem stepA_good {l : List Alarm} {a : Doing} (hg : GoodA l) : GoodA (stepA l a) := by
  unfold stepA; split
  · exact addL_good hg
  · split
    · exact dropL_good hg
    · exact swL_good hg
theorem madeL_good (l : List Doing) : ∀ k, GoodA (madeL (l.take k))
  | 0 => by simpa [madeL] using good_nil
  | k + 1 => by
    by_cases h : k < l.length
    · rw [madeL_step h]; exact stepA_good (madeL_good l k)
    · have := madeL_good l k
      rwa [List.take_of_length_le (by omega)] at this ⊢
/-- the last place of a number in the first i of a row -/
def LastA (r : List Alarm) (t : Int) (i : Nat) (at1 : Int) : Prop := (at1 = -1 ∧ ∀ q, q < i → (r.getD q a0).id ≠ t) ∨ ∃ p, p < i ∧ at1 = (p : Int) ∧ (r.getD p a0).id = t
theorem lastA_no {r : List Alarm} {t : Int} {i : Nat} {at1 : Int} (h : LastA r t i at1) (hi : i < r.length) (hn : (r.getD i a0).id ≠ t) : LastA r t (i + 1) at1 := by
  rcases h with ⟨h1, h2⟩ | ⟨p, h1, h2, h3⟩
  · refine .inl ⟨h1, fun q hq => ?_⟩
    rcases Nat.lt_or_eq_of_le (Nat.le_of_lt_succ hq) with h | h
    · exact h2 q h
    · rw [h]; exact hn
  · exact .inr ⟨p, by omega, h2, h3⟩
theorem lastA_yes {r : List Alarm} {t : Int} {i : Nat} {at1 : Int} (h : LastA r t i at1) (hi : i < r.length) (hy : (r.getD i a0).id = t) : LastA r t (i + 1) (i : Int) := .inr ⟨i, by omega, rfl, hy⟩
theorem lastA_end {r : List Alarm} {t : Int} {i : Nat} {at1 : Int} (hg : GoodA r) (hi : r.length = i) (h : LastA r t i at1) : (at1 = -1 ∧ hasA r t = false) ∨ (at1 = (posA r t : Int) ∧ hasA r t = true) := by
  subst hi
  rcases h with ⟨h1, h2⟩ | ⟨p, h1, h2, h3⟩
  · refine .inl ⟨h1, ?_⟩
    rw [has_found hg, decide_eq_false_iff_not]
    rintro ⟨h3, h4⟩; exact h2 _ h3 h4
  · right
    have hP : PosA r t p := ⟨by omega, fun q hq => by rw [← h3]; exact hg.sort q p hq h1, fun q h4 h5 => by
      rcases Nat.lt_or_eq_of_le h4 with h | h
      · have := hg.sort p q h h5; omega
      · rw [← h]; omega⟩
    have e := posA_is hP
    refine ⟨by rw [e]; exact h2, ?_⟩
    rw [has_found hg, decide_eq_true_eq, e]; exact ⟨h1, h3⟩
theorem stop_pos {r : List Alarm} {t : Int} {j : Nat} (hg : GoodA r) (hj : ∀ q, q < j → (r.getD q a0).id < t) (hl : j ≤ r.length) (hs : j = r.length ∨ t ≤ (r.getD j a0).id) : posA r t = j := posA_is ⟨hl, hj, fun q h1 h2 => by
  rcases hs with h | h
  · omega
  · rcases Nat.lt_or_eq_of_le h1 with h3 | h3
    · have := hg.sort j q h3 h2; omega
    · rw [← h3]; exact h⟩
end Go.Wk
