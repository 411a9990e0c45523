/- The next minute in which some ring. Conditions: none. -/
import Derived.Test.YtiaapecdhcibnaaWkM
set_option linter.unnecessarySimpa false
set_option linter.unusedVariables false
set_option linter.unusedSimpArgs false
namespace Go.Wk
open Go Go.Sp
/-- some alarm rings at a minute of the week -/
def someR (l : List Alarm) (x : Int) : Prop := ∃ q, q < l.length ∧ ringsA (l.getD q a0) x = true
theorem someR_iff {l : List Alarm} {m : Int} : ringsL l m = [] ↔ ¬ someR l (m % 10080) := by
  unfold ringsL someR
  rw [List.map_eq_nil_iff, List.filter_eq_nil_iff]
  constructor
  · rintro h ⟨q, hq, hr⟩; exact h _ (getD_mem hq) hr
  · intro h a ha hr
    obtain ⟨j, hj, rfl⟩ := List.getElem_of_mem ha
    exact h ⟨j, hj, by simpa [hj] using hr⟩
/-- what a round over the days finds: the least waiting time so far -/
def Best (P : Int → Prop) (at_ b : Int) : Prop := (b = 0 ∧ ∀ x, P x → False) ∨ (∃ x, P x ∧ b = waitA x at_ ∧ ∀ y, P y → b ≤ waitA y at_)
theorem wait_pos (x at_ : Int) : 1 ≤ waitA x at_ ∧ waitA x at_ ≤ 10080 := by unfold waitA; omega
theorem nI_best {a : Alarm} {at_ b : Int} {P : Int → Prop} (hb : Best P at_ b) : ∀ d, Best (fun x => P x ∨ ∃ e : Nat, e < d ∧ x = (e : Int) * 1440 + a.minute ∧ ringsA a x = true) at_ (nI a at_ b d)
  | 0 => by
    rcases hb with ⟨h1, h2⟩ | ⟨x, h1, h2, h3⟩
    · exact .inl ⟨h1, fun x hx => by rcases hx with h | ⟨e, he, _⟩; exact h2 x h; omega⟩
    · exact .inr ⟨x, .inl h1, h2, fun y hy => by rcases hy with h | ⟨e, he, _⟩; exact h3 y h; omega⟩
  | d + 1 => by
    have ih := nI_best (a := a) hb d
    generalize hr : nI a at_ b d = r at ih
    by_cases h1 : ringsA a ((d : Int) * 1440 + a.minute) = true
    · by_cases h2 : r = 0 ∨ waitA ((d : Int) * 1440 + a.minute) at_ < r
      · rw [nI_yes hr rfl rfl h1 h2]
        refine .inr ⟨_, .inr ⟨d, by omega, rfl, h1⟩, rfl, fun y hy => ?_⟩
        rcases hy with hy | ⟨e, he, rfl, hy⟩
        · rcases ih with ⟨_, g⟩ | ⟨x, g1, g2, g3⟩
          · exact (g y (.inl hy)).elim
          · have := g3 y (.inl hy); have := wait_pos x at_; omega
        · by_cases hed : e = d
          · subst hed; omega
          · rcases ih with ⟨_, g⟩ | ⟨x, g1, g2, g3⟩
            · exact (g _ (.inr ⟨e, by omega, rfl, hy⟩)).elim
            · have := g3 _ (.inr ⟨e, by omega, rfl, hy⟩); have := wait_pos x at_; omega
      · rw [nI_no hr rfl rfl (.inr (by omega))]
        rcases ih with ⟨g, _⟩ | ⟨x, g1, g2, g3⟩
        · exact absurd (.inl g) h2
        · refine .inr ⟨x, ?_, g2, fun y hy => ?_⟩
          · rcases g1 with g | ⟨e, he, g⟩
            · exact .inl g
            · exact .inr ⟨e, by omega, g⟩
          · rcases hy with hy | ⟨e, he, rfl, hy⟩
            · exact g3 y (.inl hy)
            · by_cases hed : e = d
              · subst hed; omega
              · exact g3 _ (.inr ⟨e, by omega, rfl, hy⟩)
    · rw [nI_no hr rfl rfl (.inl (by simpa using h1))]
      have sub : ∀ x, (P x ∨ ∃ e : Nat, e < d + 1 ∧ x = (e : Int) * 1440 + a.minute ∧ ringsA a x = true) → (P x ∨ ∃ e : Nat, e < d ∧ x = (e : Int) * 1440 + a.minute ∧ ringsA a x = true) := by
        rintro x (h | ⟨e, he, rfl, h⟩)
        · exact .inl h
        · refine .inr ⟨e, ?_, rfl, h⟩
          by_cases hed : e = d
          · subst hed; exact absurd h h1
          · omega
      rcases ih with ⟨g1, g2⟩ | ⟨x, g1, g2, g3⟩
      · exact .inl ⟨g1, fun x hx => g2 x (sub x hx)⟩
      · refine .inr ⟨x, ?_, g2, fun y hy => g3 y (sub y hy)⟩
        rcases g1 with g | ⟨e, he, g⟩
        · exact .inl g
        · exact .inr ⟨e, by omega, g⟩
theorem nO_best (l : List Alarm) (at_ : Int) : ∀ k, Best (fun x => ∃ q, q < k ∧ ∃ e : Nat, e < 7 ∧ x = (e : Int) * 1440 + (l.getD q a0).minute ∧ ringsA (l.getD q a0) x = true) at_ (nO l at_ k)
  | 0 => .inl ⟨rfl, fun x ⟨q, hq, _⟩ => by omega⟩
  | k + 1 => by
    have h := nI_best (a := l.getD k a0) (nO_best l at_ k) 7
    rw [nO]
    have iff1 : ∀ x, ((∃ q, q < k ∧ ∃ e : Nat, e < 7 ∧ x = (e : Int) * 1440 + (l.getD q a0).minute ∧ ringsA (l.getD q a0) x = true) ∨ ∃ e : Nat, e < 7 ∧ x = (e : Int) * 1440 + (l.getD k a0).minute ∧ ringsA (l.getD k a0) x = true) ↔ (∃ q, q < k + 1 ∧ ∃ e : Nat, e < 7 ∧ x = (e : Int) * 1440 + (l.getD q a0).minute ∧ ringsA (l.getD q a0) x = true) := by
      intro x
      constructor
      · rintro (⟨q, hq, g⟩ | g)
        · exact ⟨q, by omega, g⟩
        · exact ⟨k, by omega, g⟩
      · rintro ⟨q, hq, g⟩
        by_cases hqk : q = k
        · subst hqk; exact .inr g
        · exact .inl ⟨q, by omega, g⟩
    rcases h with ⟨g1, g2⟩ | ⟨x, g1, g2, g3⟩
    · exact .inl ⟨g1, fun x hx => g2 x ((iff1 x).2 hx)⟩
    · exact .inr ⟨x, (iff1 x).1 g1, g2, fun y hy => g3 y ((iff1 y).2 hy)⟩
theorem next_best {l : List Alarm} (hg : GoodA l) (m : Int) : Best (fun x => 0 ≤ x ∧ x < 10080 ∧ someR l x) (m % 10080) (nextN l m) := by
  have h := nO_best l (m % 10080) l.length
  have iff1 : ∀ x, (∃ q, q < l.length ∧ ∃ e : Nat, e < 7 ∧ x = (e : Int) * 1440 + (l.getD q a0).minute ∧ ringsA (l.getD q a0) x = true) ↔ (0 ≤ x ∧ x < 10080 ∧ someR l x) := by
    intro x
    constructor
    · rintro ⟨q, hq, e, he, rfl, hr⟩
      have := right_days (hg.right q hq)
      exact ⟨by omega, by omega, q, hq, hr⟩
    · rintro ⟨h0, h1, q, hq, hr⟩
      have hr' := hr
      simp only [ringsA, Bool.and_eq_true] at hr
      have h2 := of_decide_eq_true hr.1.2
      exact ⟨q, hq, (x / 1440).toNat, by omega, by omega, hr'⟩
  unfold nextN
  rcases h with ⟨g1, g2⟩ | ⟨x, g1, g2, g3⟩
  · exact .inl ⟨g1, fun x hx => g2 x ((iff1 x).2 hx)⟩
  · exact .inr ⟨x, (iff1 x).1 g1, g2, fun y hy => g3 y ((iff1 y).2 hy)⟩
theorem wait_at {m x : Int} (h0 : 0 ≤ x) (h1 : x < 10080) : (m + waitA x (m % 10080)) % 10080 = x := by unfold waitA; omega
theorem wait_le {m x i : Int} (h0 : 0 ≤ x) (h1 : x < 10080) (hi : 1 ≤ i) (hx : (m + i) % 10080 = x) : waitA x (m % 10080) ≤ i := by unfold waitA; omega
theorem next_none {l : List Alarm} (hg : GoodA l) {m : Int} (hno : ∀ q : Nat, 1 ≤ q → q ≤ 10080 → ringsL l (m + (q : Int)) = []) : nextN l m = 0 := by
  rcases next_best hg m with ⟨h, _⟩ | ⟨x, ⟨h0, h1, hs⟩, h2, _⟩
  · exact h
  · exfalso
    have hw := wait_pos x (m % 10080)
    have := hno (waitA x (m % 10080)).toNat (by omega) (by omega)
    rw [someR_iff] at this
    rw [show ((waitA x (m % 10080)).toNat : Int) = waitA x (m % 10080) by omega, wait_at h0 h1] at this
    exact this hs
theorem next_at {l : List Alarm} (hg : GoodA l) {m : Int} {i : Nat} (hi1 : 1 ≤ i) (hi2 : i ≤ 10080) (hno : ∀ q : Nat, 1 ≤ q → q < i → ringsL l (m + (q : Int)) = []) (hy : ringsL l (m + (i : Int)) ≠ []) : nextN l m = (i : Int) := by
  have hs : someR l ((m + (i : Int)) % 10080) := by
    rw [ne_eq, someR_iff] at hy
    exact Classical.byContradiction hy
  rcases next_best hg m with ⟨_, h⟩ | ⟨x, ⟨h0, h1, hx⟩, h2, h3⟩
  · exact (h _ ⟨by omega, by omega, hs⟩).elim
  · have h4 := h3 _ ⟨by omega, by omega, hs⟩
    have h5 := wait_le (m := m) (x := (m + (i : Int)) % 10080) (i := (i : Int)) (by omega) (by omega) (by omega) rfl
    have hw := wait_pos x (m % 10080)
    rcases Int.lt_or_le (nextN l m) (i : Int) with h6 | h6
    · exfalso
      have := hno (nextN l m).toNat (by omega) (by omega)
      rw [someR_iff] at this
      rw [show ((nextN l m).toNat : Int) = nextN l m by omega, h2, wait_at h0 h1] at this
      exact this hx
    · omega
theorem rings_mod {l : List Alarm} {a b : Int} (h : a % 10080 = b % 10080) : ringsL l a = ringsL l b := by unfold ringsL; rw [h]
theorem next_rings {l : List Alarm} {m : Int} {i : Nat} (hN : nextN l m = (i : Int)) (hi : 1 ≤ i) : nextR l m = ringsL l (m + (i : Int)) := by
  unfold nextR
  rw [if_neg (by omega), hN]
  exact rings_mod (by omega)
end Go.Wk
