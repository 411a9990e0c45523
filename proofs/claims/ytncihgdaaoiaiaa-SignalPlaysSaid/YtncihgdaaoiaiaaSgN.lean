/- SignalPlays' plain row against the queue. Conditions: none. -/
import Derived.Test.YtncihgdaaoiaiaaSgM
set_option linter.unnecessarySimpa false
set_option linter.unusedVariables false
set_option linter.unusedSimpArgs false
namespace Go.Sg
open Go Go.Sp
/-- the first place from j on, so far -/
def First (p : Sig → Bool) (r : List Sig) (j : Nat) (f : Int) : Prop := (f = -1 ∧ ∀ q, j ≤ q → q < r.length → p (r.getD q s0) = false) ∨ ∃ i, j ≤ i ∧ i < r.length ∧ f = (i : Int) ∧ p (r.getD i s0) = true ∧ ∀ q, j ≤ q → q < i → p (r.getD q s0) = false
theorem First.start (p : Sig → Bool) (r : List Sig) : First p r r.length (-1) := .inl ⟨rfl, fun q h1 h2 => by omega⟩
theorem First.yes {p : Sig → Bool} {r : List Sig} {i : Nat} {f : Int} (h : First p r (i + 1) f) (hi : i < r.length) (hp : p (r.getD i s0) = true) : First p r i (i : Int) := .inr ⟨i, Nat.le_refl _, hi, rfl, hp, fun q h1 h2 => by omega⟩
theorem First.no {p : Sig → Bool} {r : List Sig} {i : Nat} {f : Int} (h : First p r (i + 1) f) (hp : p (r.getD i s0) = false) : First p r i f := by
  rcases h with ⟨h1, h2⟩ | ⟨k, h1, h2, h3, h4, h5⟩
  · refine .inl ⟨h1, fun q g1 g2 => ?_⟩
    rcases Nat.lt_or_eq_of_le g1 with g | g
    · exact h2 q g g2
    · rw [← g]; exact hp
  · refine .inr ⟨k, by omega, h2, h3, h4, fun q g1 g2 => ?_⟩
    rcases Nat.lt_or_eq_of_le g1 with g | g
    · exact h5 q g g2
    · rw [← g]; exact hp
theorem First.done {p : Sig → Bool} {r : List Sig} {f : Int} (h : First p r 0 f) : f = idxI (r.findIdx? p) := by
  rcases h with ⟨h1, h2⟩ | ⟨k, h1, h2, h3, h4, h5⟩
  · rw [find_none rfl (Nat.le_refl _) (fun q hq => h2 q (by omega) hq)]; exact h1
  · rw [find_some rfl h2 (fun q hq => h5 q (by omega) hq) h4]; exact h3
/-- no two of a number and a timer -/
def Alone (r : List Sig) : Prop := ∀ p q, p < q → q < r.length → ¬ ((r.getD p s0).no = (r.getD q s0).no ∧ (r.getD p s0).timer = (r.getD q s0).timer)
/-- the last place of a number and a timer among the first i -/
def LastG (r : List Sig) (no tm : Int) (i : Nat) (f : Int) : Prop := (f = -1 ∧ ∀ q, q < i → ¬ ((r.getD q s0).no = no ∧ (r.getD q s0).timer = tm)) ∨ ∃ p, p < i ∧ f = (p : Int) ∧ (r.getD p s0).no = no ∧ (r.getD p s0).timer = tm
theorem lastG_no {r : List Sig} {no tm : Int} {i : Nat} {f : Int} (h : LastG r no tm i f) (hn : ¬ ((r.getD i s0).no = no ∧ (r.getD i s0).timer = tm)) : LastG r no tm (i + 1) f := by
  rcases h with ⟨h1, h2⟩ | ⟨p, h1, h2, h3⟩
  · refine .inl ⟨h1, fun q hq => ?_⟩
    rcases Nat.lt_or_eq_of_le (Nat.le_of_lt_succ hq) with h | h
    · exact h2 q h
    · rw [h]; exact hn
  · exact .inr ⟨p, by omega, h2, h3⟩
theorem lastG_yes {r : List Sig} {no tm : Int} {i : Nat} {f : Int} (h : LastG r no tm i f) (hy : (r.getD i s0).no = no ∧ (r.getD i s0).timer = tm) : LastG r no tm (i + 1) (i : Int) := .inr ⟨i, by omega, rfl, hy⟩
theorem lastG_end {r : List Sig} {no tm : Int} {f : Int} (ha : Alone r) (h : LastG r no tm r.length f) : f = idxI (atG r no tm) := by
  unfold atG
  rcases h with ⟨h1, h2⟩ | ⟨p, h1, h2, h3⟩
  · rw [find_none rfl (Nat.le_refl _) (fun q hq => by have := h2 q hq; simp only [Bool.and_eq_false_iff, decide_eq_false_iff_not]; exact Classical.not_and_iff_not_or_not.1 this)]; exact h1
  · rw [find_some rfl h1 (fun q hq => by
      have := ha q p hq h1
      rw [h3.1, h3.2] at this
      simp only [Bool.and_eq_false_iff, decide_eq_false_iff_not]; exact Classical.not_and_iff_not_or_not.1 this) (by rw [Bool.and_eq_true]; exact ⟨decide_eq_true h3.1, decide_eq_true h3.2⟩)]
    exact h2
theorem drop_yes {r : List Sig} {tm : Int} {i : Nat} (hi : i < r.length) (h : (r.getD i s0).timer ≠ tm) : dropL (r.take i) tm ++ [r.getD i s0] = dropL (r.take (i + 1)) tm := by
  have e : r[i] = r.getD i s0 := by simp [hi]
  have h2 : isT tm (r.getD i s0) = false := decide_eq_false h
  rw [List.take_succ_eq_append_getElem hi, dropL, dropL, List.filter_append, e, List.filter_cons_of_pos (by rw [h2]; rfl)]; rfl
theorem drop_no {r : List Sig} {tm : Int} {i : Nat} (hi : i < r.length) (h : (r.getD i s0).timer = tm) : dropL (r.take i) tm = dropL (r.take (i + 1)) tm := by
  have e : r[i] = r.getD i s0 := by simp [hi]
  have h2 : isT tm (r.getD i s0) = true := decide_eq_true h
  rw [List.take_succ_eq_append_getElem hi, dropL, dropL, List.filter_append, e, List.filter_cons_of_neg (by rw [h2]; decide)]; simp
theorem drop_len (r : List Sig) (tm : Int) (i : Nat) : (dropL (r.take i) tm).length ≤ i := Nat.le_trans (List.length_filter_le _ _) (by simp; omega)

/-! ### what stays good -/
def okG (x : Sig) : Prop := 1 ≤ x.no ∧ x.no ≤ 63 ∧ -1 ≤ x.timer ∧ 0 ≤ x.over ∧ x.over ≤ 2147483647
def key (x : Sig) : Int × Int := (x.no, x.timer)
/-- a good row, by its members -/
structure FineG (l : List Sig) : Prop where
  len : l.length ≤ 32
  ok : ∀ x ∈ l, okG x
  keys : (l.map key).Nodup
theorem FineG.good {l : List Sig} (h : FineG l) : GoodG l := ⟨h.len, fun p hp => by
  have : l.getD p s0 ∈ l := by simp [hp]
  exact h.ok _ this⟩
theorem FineG.alone {l : List Sig} (h : FineG l) : Alone l := by
  intro p q hpq hq he
  have h1 := List.pairwise_iff_getElem.1 h.keys p q (by simp; omega) (by simpa using hq) hpq
  apply h1
  have e1 : l.getD p s0 = l[p] := by simp [show p < l.length by omega]
  have e2 : l.getD q s0 = l[q] := by simp [hq]
  rw [e1, e2] at he
  simp [key, he.1, he.2]
theorem FineG.sub {l m : List Sig} (h : FineG l) (hs : m.Sublist l) : FineG m :=
  ⟨Nat.le_trans hs.length_le h.len, fun x hx => h.ok x (hs.subset hx), h.keys.sublist (hs.map key)⟩
theorem fine_nil : FineG [] := ⟨by simp, fun x h => by simp at h, by simp⟩
theorem fine_drop {l : List Sig} {tm : Int} (h : FineG l) : FineG (dropL l tm) := h.sub List.filter_sublist
theorem fine_take {l : List Sig} {bv : BitVec 64} (h : FineG l) : FineG (takeL l bv) := by
  unfold takeL; split
  · exact h
  · exact h.sub (List.eraseIdx_sublist ..)
theorem atG_none {l : List Sig} {no tm : Int} (h : atG l no tm = none) : (no, tm) ∉ l.map key := by
  unfold atG at h
  rw [List.findIdx?_eq_none_iff] at h
  intro hm
  obtain ⟨x, hx, he⟩ := List.mem_map.1 hm
  have := h x hx
  simp only [key, Prod.mk.injEq] at he
  simp [he.1, he.2] at this
theorem fine_send {l : List Sig} {no tm ov : Int} (h : FineG l) : FineG (sendL l no tm ov) := by
  unfold sendL
  split
  · exact h
  · rename_i hb
    have hb' : badG no tm ov = false := by simpa using hb
    simp only [badG, Bool.or_eq_false_iff, Bool.not_eq_false', decide_eq_false_iff_not] at hb'
    have hr := of_decide_eq_true hb'.1.1
    split
    · rename_i k hk
      split
      · exact h
      · have hlt := atG_lt hk
        have hm : l.getD k s0 ∈ l := by simp [hlt]
        have hok := h.ok _ hm
        have hov := overI_range ((l.getD k s0).over + overI ov + 1)
        refine ⟨by rw [List.length_set]; exact h.len, fun x hx => ?_, ?_⟩
        · rcases List.mem_or_eq_of_mem_set hx with hx | rfl
          · exact h.ok x hx
          · exact ⟨hok.1, hok.2.1, hok.2.2.1, hov.1, hov.2⟩
        · rw [List.map_set]
          have : key ⟨(l.getD k s0).no, (l.getD k s0).timer, overI ((l.getD k s0).over + overI ov + 1)⟩ = (l.map key)[k]'(by simpa using hlt) := by
            simp [key, hlt]
          rw [this, List.set_getElem_self]; exact h.keys
    · rename_i hn
      split
      · exact h
      · have hov := overI_range ov
        refine ⟨by simp; omega, fun x hx => ?_, ?_⟩
        · rcases List.mem_append.1 hx with hx | hx
          · exact h.ok x hx
          · simp at hx; subst hx; exact ⟨hr.1, hr.2, by simp; omega, hov.1, hov.2⟩
        · rw [List.map_append]
          refine List.nodup_append.2 ⟨h.keys, by simp, fun a ha b hb => ?_⟩
          simp at hb; subst hb
          intro he; subst he; exact atG_none hn ha
end Go.Sg
