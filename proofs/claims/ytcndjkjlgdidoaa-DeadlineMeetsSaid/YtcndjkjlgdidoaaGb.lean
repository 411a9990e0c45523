import Derived.Test.YtcndjkjlgdidoaaGa
namespace Go.Proofs.Ytcndjkjlgdidoaa.Da
open Go.RowKit Go.Proofs.YtcndjkjlgdidoaaW.PrintWords Go.Proofs.YtcndjkjlgdidoaaW.PrintLast Go.Proofs.YtcndjkjlgdidoaaW.PrintMore
open PDl
set_option linter.unusedVariables false
set_option linter.unusedSimpArgs false

/-! sums over the first n -/
def S (f : Nat → Int) : Nat → Int
  | 0 => 0
  | n + 1 => S f n + f n
theorem S_le {f g : Nat → Int} : ∀ (n : Nat), (∀ j, j < n → f j ≤ g j) → S f n ≤ S g n
  | 0, _ => Int.le_refl _
  | n + 1, h => by have := S_le n (fun j hj => h j (by omega)); have := h n (by omega); simp only [S]; omega
theorem S_eq {f g : Nat → Int} (n : Nat) (h : ∀ j, j < n → f j = g j) : S f n = S g n :=
  Int.le_antisymm (S_le n fun j hj => by rw [h j hj]; exact Int.le_refl _) (S_le n fun j hj => by rw [h j hj]; exact Int.le_refl _)
theorem S_mul (c : Int) (f : Nat → Int) : ∀ n, S (fun j => c * f j) n = c * S f n
  | 0 => by simp [S]
  | n + 1 => by simp only [S]; rw [S_mul c f n, Int.mul_add]
theorem S_one {f g : Nat → Int} {k : Nat} : ∀ (n : Nat), k < n → (∀ j, j < n → j ≠ k → f j = g j) → f k = g k - 1 → S f n = S g n - 1
  | 0, h, _, _ => by omega
  | n + 1, h, ho, hk => by
    simp only [S]
    by_cases e : k = n
    · subst e
      rw [S_eq k (fun j hj => ho j (by omega) (by omega)), hk]; omega
    · rw [S_one n (by omega) (fun j hj hne => ho j (by omega) hne) hk, ho n (by omega) (by omega)]; omega
theorem S_zero {f : Nat → Int} (n : Nat) (h : ∀ j, j < n → f j ≤ 0) : S f n ≤ 0 := by
  have h1 := S_le (g := fun _ => 0) n h
  have h2 : S (fun _ => 0) n = 0 := by induction n with
    | zero => rfl
    | succ n ih => simp only [S]; rw [ih (fun j hj => h j (by omega)) (S_le n fun j hj => h j (by omega))]; rfl
  omega
theorem S_part {f : Nat → Int} {k : Nat} : ∀ (n : Nat), k < n → (∀ j, j < n → 0 ≤ f j) → f k ≤ S f n
  | 0, h, _ => by omega
  | n + 1, h, h0 => by
    simp only [S]
    have hn : 0 ≤ S f n := by
      have h1 := S_le (f := fun _ => 0) (g := f) n (fun j hj => h0 j (by omega))
      have h2 : S (fun _ => 0) n = 0 := by
        clear h1 h h0
        induction n with
        | zero => rfl
        | succ n ih => simp only [S]; rw [ih]; rfl
      omega
    by_cases e : k = n
    · subst e; omega
    · have := S_part (k := k) n (by omega) (fun j hj => h0 j (by omega))
      have := h0 n (by omega)
      omega

theorem sumOf_snoc (c : Int) (x : S35) : ∀ a : List S35, sumOf c (a ++ [x]) = sumOf c a + c / x.f0 * x.f1
  | [] => by simp [sumOf]
  | y :: r => by simp only [List.cons_append, sumOf, sumOf_snoc c x r]; omega
theorem S_sumOf' (c : Int) (m : List S35) : ∀ n : Nat, n ≤ m.length → S (fun j => c / (rd_T35 m (j : Int)).f0 * (rd_T35 m (j : Int)).f1) n = sumOf c (m.take n)
  | 0, _ => rfl
  | n + 1, h => by
    have hn : n < m.length := by omega
    rw [S, S_sumOf' c m n (by omega), List.take_succ_eq_append_getElem hn, sumOf_snoc, rd35_eq hn]
theorem S_sumOf (c : Int) (m : List S35) : S (fun j => c / (rd_T35 m (j : Int)).f0 * (rd_T35 m (j : Int)).f1) m.length = sumOf c m := by
  rw [S_sumOf' c m m.length (Nat.le_refl _), List.take_of_length_le (Nat.le_refl _)]

/-! the first that is next -/
theorem best_min (L D : Nat → Int) : ∀ (n : Nat), (best L D n < 0 → ∀ j, j < n → L j ≤ 0) ∧ (0 ≤ best L D n → ∀ j, j < n → 0 < L j → D (best L D n).toNat ≤ D j)
  | 0 => ⟨fun _ j h => by omega, fun _ j h => by omega⟩
  | n + 1 => by
    obtain ⟨h1, h2⟩ := best_min L D n
    have hb := best_bd L D n
    unfold best
    by_cases hc : 0 < L n ∧ (best L D n < 0 ∨ D n < D (best L D n).toNat)
    · rw [if_pos hc]
      refine ⟨fun h => by omega, fun _ j hj hL => ?_⟩
      rw [Int.toNat_natCast]
      by_cases e : j = n
      · subst e; exact Int.le_refl _
      · rcases hc.2 with h | h
        · have := h1 h j (by omega); omega
        · have : 0 ≤ best L D n := by
            rcases Int.lt_or_le (best L D n) 0 with g | g
            · have := h1 g j (by omega); omega
            · exact g
          have := h2 this j (by omega) hL; omega
    · rw [if_neg hc]
      refine ⟨fun h j hj => ?_, fun h j hj hL => ?_⟩
      · by_cases e : j = n
        · subst e
          rcases Int.lt_or_le 0 (L j) with g | g
          · exact absurd ⟨g, .inl h⟩ hc
          · exact g
        · exact h1 h j (by omega)
      · by_cases e : j = n
        · subst e
          rcases Int.lt_or_le (D j) (D (best L D j).toNat) with g | g
          · exact absurd ⟨hL, .inr g⟩ hc
          · exact g
        · exact h2 h j (by omega) hL

section
variable (l : List S35)
def pr (j : Nat) : Int := (rd_T35 l (j : Int)).f0
def co (j : Nat) : Int := (rd_T35 l (j : Int)).f1
def be (j : Nat) : Int := (rd_T35 l (j : Int)).f2
/-- when a task's next job comes, at a tick or later -/
def na (j : Nat) : Nat → Int
  | 0 => be l j
  | t + 1 => if na j t = t then t + pr l j else na j t
variable (hr : ∀ t ∈ l, okTask t)
include hr
theorem ok_at {j : Nat} (hj : j < l.length) : 1 ≤ pr l j ∧ pr l j ≤ 1000 ∧ 1 ≤ co l j ∧ co l j ≤ pr l j ∧ 0 ≤ be l j := by
  have := hr _ (rd35_mem hj)
  unfold okTask at this
  unfold pr co be
  omega
theorem na_inv {j : Nat} (hj : j < l.length) : ∀ t : Nat, (t : Int) ≤ na l j t ∧ be l j ≤ na l j t ∧ (na l j t - be l j) % pr l j = 0 ∧ (na l j t = be l j ∨ na l j t - t < pr l j)
  | 0 => by have := ok_at l hr hj; simp [na]; omega
  | t + 1 => by
    obtain ⟨h1, h2, h3, h4⟩ := na_inv hj t
    have ho := ok_at l hr hj
    unfold na
    by_cases e : na l j t = t
    · rw [if_pos e]
      refine ⟨by omega, by omega, ?_, .inr (by omega)⟩
      have : (t : Int) + pr l j - be l j = (na l j t - be l j) + pr l j := by omega
      rw [this, Int.add_emod_right]; exact h3
    · rw [if_neg e]
      exact ⟨by omega, h2, h3, by rcases h4 with h | h
                                  · exact .inl h
                                  · exact .inr (by omega)⟩
theorem fires_iff {j : Nat} (hj : j < l.length) (t : Nat) : fires (rd_T35 l (j : Int)) t = true ↔ na l j t = t := by
  obtain ⟨h1, h2, h3, h4⟩ := na_inv l hr hj t
  have ho := ok_at l hr hj
  unfold fires
  simp only [Bool.and_eq_true, decide_eq_true_eq]
  show be l j ≤ (t : Int) ∧ ((t : Int) - be l j) % pr l j = 0 ↔ _
  constructor
  · rintro ⟨g1, g2⟩
    rcases h4 with h | h
    · omega
    · have e : (na l j t - t) % pr l j = 0 := by
        have : na l j t - t = (na l j t - be l j) - (t - be l j) := by omega
        rw [this]
        exact Int.emod_eq_zero_of_dvd (Int.dvd_sub (Int.dvd_of_emod_eq_zero h3) (Int.dvd_of_emod_eq_zero g2))
      rw [Int.emod_eq_of_lt (by omega) h] at e
      omega
  · intro e
    rw [e] at h2 h3
    exact ⟨h2, h3⟩

/-- how many jobs of a task come from a tick on whose deadline is not later than T -/
def cnt (j t : Nat) (T : Int) : Int := if na l j t ≤ T then (T - na l j t) / pr l j else 0
def dem (s : St) (t : Nat) (T : Int) : Nat → Int := fun j => (if s.D j ≤ T then s.L j else 0) + co l j * cnt l j t T
/-- what is to be done till T fits -/
structure Inv (t : Nat) (s : St) : Prop where
  M : ∀ j, s.M j = 0
  L : ∀ j, 0 ≤ s.L j
  D : ∀ j, j < l.length → 0 < s.L j → s.D j = na l j t
  fit : ∀ T : Int, t ≤ T → S (dem l s t T) l.length ≤ T - t

/-- a load that is not above 1: what is to be done in x ticks is at most x -/
theorem load_le (hf : fitsB l = true) (x : Int) (hx : 0 ≤ x) : S (fun j => co l j * (x / pr l j)) l.length ≤ x := by
  unfold fitsB at hf
  by_cases hc : lcmF 1 l ≤ 1000000000
  · rw [if_pos hc] at hf
    have hf' : sumOf (lcmF 1 l : Nat) l ≤ ((lcmF 1 l : Nat) : Int) := of_decide_eq_true hf
    have hp := lcmF_pos l 1 (by omega) hr
    have hd := ((lcmF_dvd (lcmF 1 l) l 1).1 (Nat.dvd_refl _)).2
    obtain ⟨C, hC⟩ : ∃ C : Int, ((lcmF 1 l : Nat) : Int) = C := ⟨_, rfl⟩
    have hdv : ∀ j, j < l.length → pr l j ∣ C := by
      intro j hj
      have h1 := hd _ (rd35_mem hj)
      have h2 := ok_at l hr hj
      rw [← hC]
      have e : pr l j = ((per (rd_T35 l (j : Int)) : Nat) : Int) := by unfold per pr at *; omega
      rw [e]; exact Int.natCast_dvd_natCast.2 h1
    rw [hC] at hf'
    have hCp : 0 < C := by omega
    rw [← S_sumOf C l] at hf'
    have h1 : C * S (fun j => co l j * (x / pr l j)) l.length ≤ C * x := by
      rw [← S_mul]
      have h2 : S (fun j => C * (co l j * (x / pr l j))) l.length ≤ S (fun j => x * (C / (rd_T35 l (j : Int)).f0 * (rd_T35 l (j : Int)).f1)) l.length := by
        refine S_le _ fun j hj => ?_
        have ho := ok_at l hr hj
        obtain ⟨q, hq⟩ := hdv j hj
        have e1 : C / (rd_T35 l (j : Int)).f0 = q := by
          show C / pr l j = q
          rw [hq, Int.mul_ediv_cancel_left _ (by omega)]
        have hq0 : 0 ≤ q := by
          rcases Int.lt_or_le q 0 with g | g
          · have : pr l j * q < 0 := Int.mul_neg_of_pos_of_neg (by omega) g
            omega
          · exact g
        rw [e1]
        show C * (co l j * (x / pr l j)) ≤ x * (q * co l j)
        have e2 : C * (co l j * (x / pr l j)) = q * co l j * (x / pr l j * pr l j) := by
          rw [hq]; simp only [Int.mul_comm, Int.mul_left_comm, Int.mul_assoc]
        have e3 : x * (q * co l j) = q * co l j * x := Int.mul_comm _ _
        rw [e2, e3]
        exact Int.mul_le_mul_of_nonneg_left (Int.ediv_mul_le _ (by omega)) (Int.mul_nonneg hq0 (by omega))
      have h3 := S_mul x (fun j => C / (rd_T35 l (j : Int)).f0 * (rd_T35 l (j : Int)).f1) l.length
      rw [h3] at h2
      have h4 := Int.mul_le_mul_of_nonneg_left hf' hx
      rw [Int.mul_comm x C] at h4
      omega
    exact Int.le_of_mul_le_mul_left h1 hCp
  · rw [if_neg hc] at hf; cases hf

theorem cnt_le {j : Nat} (hj : j < l.length) (t : Nat) (T : Int) (hT : t ≤ T) : 0 ≤ cnt l j t T ∧ cnt l j t T ≤ (T - t) / pr l j := by
  have h := na_inv l hr hj t
  have ho := ok_at l hr hj
  unfold cnt
  split
  · exact ⟨Int.ediv_nonneg (by omega) (by omega), Int.ediv_le_ediv (by omega) (by omega)⟩
  · exact ⟨Int.le_refl _, Int.ediv_nonneg (by omega) (by omega)⟩

theorem inv_0 (hf : fitsB l = true) : Inv l 0 st0 := by
  refine ⟨fun j => rfl, fun j => Int.le_refl _, fun j hj h => by simp [st0] at h, fun T hT => ?_⟩
  have h1 : S (dem l st0 0 T) l.length ≤ S (fun j => co l j * (T / pr l j)) l.length := by
    refine S_le _ fun j hj => ?_
    have hc := cnt_le l hr hj 0 T hT
    have ho := ok_at l hr hj
    unfold dem
    have e : (if st0.D j ≤ T then st0.L j else 0) = 0 := by show (if (0 : Int) ≤ T then (0 : Int) else 0) = 0; split <;> rfl
    rw [e, Int.zero_add]
    have := hc.2
    rw [show T - ((0 : Nat) : Int) = T by omega] at this
    exact Int.mul_le_mul_of_nonneg_left this (by omega)
  have h2 := load_le l hr hf T (by omega)
  omega

theorem cnt_step {j : Nat} (hj : j < l.length) (t : Nat) (T : Int) (hT : t ≤ T) (e : na l j t = t) : cnt l j t T = (if t + pr l j ≤ T then 1 else 0) + cnt l j (t + 1) T := by
  have ho := ok_at l hr hj
  have en : na l j (t + 1) = t + pr l j := by simp only [na]; rw [if_pos e]
  unfold cnt
  rw [e, en, if_pos hT]
  by_cases h : (t : Int) + pr l j ≤ T
  · rw [if_pos h, if_pos h]
    have : T - t = (T - (t + pr l j)) + 1 * pr l j := by omega
    rw [this, Int.add_mul_ediv_right _ _ (by omega)]; omega
  · rw [if_neg h, if_neg h, Int.ediv_eq_zero_of_lt (by omega) (by omega)]; rfl

theorem inv_step (hf : fitsB l = true) (t : Nat) (s : St) (I : Inv l t s) : Inv l (t + 1) (tickSt l t s) := by
  have hn := l.length
  -- nothing is left of what was to be done by now
  have hnone : ∀ j, j < l.length → na l j t = t → s.L j = 0 := by
    intro j hj e
    have h1 := I.fit t (Int.le_refl _)
    have h2 := S_part (f := dem l s t t) (k := j) l.length hj (fun i hi => by
      have hc := cnt_le l hr hi t t (Int.le_refl _)
      have ho := ok_at l hr hi
      have := Int.mul_nonneg (show 0 ≤ co l i by omega) hc.1
      have := I.L i
      unfold dem; split <;> omega)
    have hc := cnt_le l hr hj t t (Int.le_refl _)
    have ho := ok_at l hr hj
    have := Int.mul_nonneg (show 0 ≤ co l j by omega) hc.1
    have hL := I.L j
    rcases Int.lt_or_le 0 (s.L j) with g | g
    · have hD := I.D j hj g
      have e9 : dem l s t t j = s.L j + co l j * cnt l j t t := by unfold dem; rw [if_pos (by omega)]
      rw [e9] at h2
      omega
    · omega
  -- the jobs come
  obtain ⟨L1, hL1⟩ : ∃ L1, stL l t s.L l.length = L1 := ⟨_, rfl⟩
  obtain ⟨D1, hD1⟩ : ∃ D1, stD l t s.D l.length = D1 := ⟨_, rfl⟩
  have hl1 : ∀ j, j < l.length → L1 j = if na l j t = t then co l j else s.L j := by
    intro j hj
    rw [← hL1]; unfold stL
    by_cases e : na l j t = t
    · rw [if_pos ⟨hj, (fires_iff l hr hj t).2 e⟩, if_pos e]; rfl
    · rw [if_neg (fun h => e ((fires_iff l hr hj t).1 h.2)), if_neg e]
  have hd1 : ∀ j, j < l.length → D1 j = if na l j t = t then t + pr l j else s.D j := by
    intro j hj
    rw [← hD1]; unfold stD
    by_cases e : na l j t = t
    · rw [if_pos ⟨hj, (fires_iff l hr hj t).2 e⟩, if_pos e]; rfl
    · rw [if_neg (fun h => e ((fires_iff l hr hj t).1 h.2)), if_neg e]
  have hL0 : ∀ j, 0 ≤ L1 j := by
    intro j
    rw [← hL1]; unfold stL; split
    · rename_i h
      have := hr _ (rd35_mem h.1); unfold okTask at this; omega
    · exact I.L j
  have hDD : ∀ j, j < l.length → 0 < L1 j → D1 j = na l j (t + 1) := by
    intro j hj h
    rw [hl1 j hj] at h
    rw [hd1 j hj]
    simp only [na]
    by_cases e : na l j t = t
    · rw [if_pos e, if_pos e]
    · rw [if_neg e] at h; rw [if_neg e, if_neg e]; exact I.D j hj h
  obtain ⟨s1, hs1⟩ : ∃ s1 : St, s1 = { s with L := L1, D := D1 } := ⟨_, rfl⟩
  have hdem : ∀ T : Int, t ≤ T → S (dem l s1 (t + 1) T) l.length ≤ T - t := by
    intro T hT
    refine Int.le_trans (Int.le_of_eq (S_eq _ fun j hj => ?_)) (I.fit T hT)
    subst hs1
    unfold dem
    simp only
    rw [hl1 j hj, hd1 j hj]
    by_cases e : na l j t = t
    · rw [if_pos e, if_pos e, hnone j hj e, cnt_step l hr hj t T hT e, Int.mul_add]
      have e0 : (if s.D j ≤ T then (0 : Int) else 0) = 0 := by split <;> rfl
      rw [e0]
      by_cases h : (t : Int) + pr l j ≤ T
      · rw [if_pos h, if_pos h]; omega
      · rw [if_neg h, if_neg h]; omega
    · rw [if_neg e, if_neg e]
      have e2 : na l j (t + 1) = na l j t := by simp only [na]; rw [if_neg e]
      have : cnt l j (t + 1) T = cnt l j t T := by unfold cnt; rw [e2]
      rw [this]
  have hbp := best_pos L1 D1 l.length
  have hbd := best_bd L1 D1 l.length
  obtain ⟨hm1, hm2⟩ := best_min L1 D1 l.length
  obtain ⟨b, hb⟩ : ∃ b, best L1 D1 l.length = b := ⟨_, rfl⟩
  rw [hb] at hbp hbd hm1 hm2
  have hT2 : ∀ j, (tickSt l t s).L j = if 0 ≤ b ∧ j = b.toNat then L1 j - 1 else L1 j := by
    intro j; simp only [tickSt, hL1, hD1, hb]
  have hTD : (tickSt l t s).D = D1 := by simp only [tickSt, hD1]
  refine ⟨fun j => ?_, fun j => ?_, fun j hj h => ?_, fun T hT => ?_⟩
  · simp only [tickSt]; unfold stM
    rw [if_neg]
    · exact I.M j
    · rintro ⟨h1, h2, h3⟩
      have := hnone j h1 ((fires_iff l hr h1 t).1 h2)
      omega
  · rw [hT2]
    have := hL0 j
    split
    · rename_i h
      have := hbp h.1
      rw [← h.2] at this; omega
    · exact this
  · rw [hTD]
    refine hDD j hj ?_
    rw [hT2] at h
    split at h <;> omega
  · have hT' : (t : Int) + 1 ≤ T := by have := hT; simp at this; omega
    have hd := hdem T (by omega)
    have hcast : ((t + 1 : Nat) : Int) = (t : Int) + 1 := by omega
    by_cases hcase : 0 ≤ b ∧ D1 b.toNat ≤ T
    · have hbl : b.toNat < l.length := by omega
      have := S_one (f := dem l (tickSt l t s) (t + 1) T) (g := dem l s1 (t + 1) T) (k := b.toNat) l.length hbl
        (fun j hj hne => by
          have e9 : (tickSt l t s).L j = L1 j := by rw [hT2, if_neg (fun h => hne h.2)]
          subst hs1; unfold dem; rw [hTD, e9])
        (by
          have e9 : (tickSt l t s).L b.toNat = L1 b.toNat - 1 := by rw [hT2, if_pos ⟨hcase.1, rfl⟩]
          subst hs1; unfold dem; rw [hTD, e9, if_pos hcase.2]; simp only; rw [if_pos hcase.2]; omega)
      omega
    · have hz : ∀ j, j < l.length → (if D1 j ≤ T then (tickSt l t s).L j else 0) ≤ 0 := by
        intro j hj
        by_cases hjT : D1 j ≤ T
        · rw [if_pos hjT, hT2]
          rcases Int.lt_or_le b 0 with g | g
          · have := hm1 g j hj
            rw [if_neg (by omega)]; exact this
          · have hgt : ¬ D1 b.toNat ≤ T := fun h => hcase ⟨g, h⟩
            have hne : j ≠ b.toNat := fun e => by rw [e] at hjT; exact hgt hjT
            rw [if_neg (fun h => hne h.2)]
            rcases Int.lt_or_le 0 (L1 j) with g2 | g2
            · have := hm2 g j hj g2; omega
            · exact g2
        · rw [if_neg hjT]; exact Int.le_refl _
      have h1 : S (dem l (tickSt l t s) (t + 1) T) l.length ≤ S (fun j => co l j * ((T - ((t + 1 : Nat) : Int)) / pr l j)) l.length := by
        refine S_le _ fun j hj => ?_
        have hc := cnt_le l hr hj (t + 1) T hT
        have ho := ok_at l hr hj
        have h0 := hz j hj
        have := Int.mul_le_mul_of_nonneg_left hc.2 (show 0 ≤ co l j by omega)
        unfold dem
        rw [hTD]
        omega
      have h2 := load_le l hr hf (T - ((t + 1 : Nat) : Int)) (by omega)
      omega

theorem run_inv (hf : fitsB l = true) : ∀ t, Inv l t (run l t)
  | 0 => inv_0 l hr hf
  | t + 1 => inv_step l hr hf t (run l t) (run_inv hf t)
end
end Go.Proofs.Ytcndjkjlgdidoaa.Da
