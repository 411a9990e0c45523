import Derived.Test.YtfpheadbcemmiaaScR
import Derived.Test.YtfpheadbcemmiaaPScx6
import Derived.Test.YtfpheadbcemmiaaPScx7
namespace Go.Proofs.Ytfpheadbcemmiaa.Sc
open Go.RowKit Go.Proofs.YtfpheadbcemmiaaW.PrintWords Go.Proofs.YtfpheadbcemmiaaW.PrintLast Go.Proofs.YtfpheadbcemmiaaW.PrintMore
open PSc
set_option linter.unusedVariables false
set_option linter.unusedSimpArgs false

theorem make_f (h : Int) : scale_Make.f h = some (makeP h) := rfl
theorem make1000 : makeP 1000 = (4096000000, 12, true) := by decide +kernel
theorem make0 : makeP 0 = (0, 0, false) := by decide +kernel

theorem fixed_true (k : Nat) (hk : 64 ≤ k) : fuseelaw04_fixed.f k = some true := by
  unfold fuseelaw04_fixed.f
  rw [make_f, make_f, make1000, make0]
  simp only [Option.bind_some, if_true]
  have hr : scale_Right.f 4096000000 12 = some true := by rw [right_eq]; rfl
  have h1 : scale_Nanos.f 4096000000 12 1 = some 1000000 := nanos_eq 4096000000 12 1 (by decide) (by decide) (by decide)
  have h2 : scale_Nanos.f 0 0 5 = some 0 := nanos_no 0 0 5 (by decide)
  have h3 : scale_Nanos.f 3 1 5 = some 7 := nanos_eq 3 1 5 (by decide) (by decide) (by decide)
  have h4 : scale_Nanos.f 4096000000 12 1000 = some 1000000000 := nanos_eq 4096000000 12 1000 (by decide) (by decide) (by decide)
  have h5 : scale_Error.f 4096000000 12 1000 = some 0 := by
    unfold scale_Error.f
    rw [hr, h4]; decide +kernel
  have h6 : scale_Cycles.f k 4096000000 12 1000001 = some 2 := by
    obtain ⟨c, hc, e, ha, hb⟩ := cycles_eq k hk 4096000000 12 1000001 (by decide) (by decide) (by decide)
    have n1 : NN 4096000000 12 1 < cl 1000001 := by decide +kernel
    have n2 : cl 1000001 ≤ NN 4096000000 12 2 := by decide +kernel
    have g1 : ¬ c ≤ 1 := by
      intro hle
      have := NN_mono 4096000000 12 hle
      rcases hb with hb | hb
      · omega
      · omega
    have g2 : ¬ 2 < c := fun hlt => by have := ha 2 hlt; omega
    have : c = 2 := by omega
    subst this
    exact e
  rw [hr, h1, h2, h3, h5, h6]
  rfl

theorem right2_eq (f s : Int) : fuseelaw04_right.f f s = some (decide (1 ≤ f ∧ f < 4294967296 ∧ 0 ≤ s ∧ s ≤ 32)) := by
  unfold fuseelaw04_right.f
  by_cases h1 : f > 0
  · by_cases h2 : f < 4294967296
    · by_cases h3 : s ≥ 0
      · rw [if_pos h1, if_pos h2, if_pos h3]
        have : 1 ≤ f := h1
        have : 0 ≤ s := h3
        simp [*]
      · rw [if_pos h1, if_pos h2, if_neg h3]
        have : ¬ 0 ≤ s := h3
        simp [this]
    · rw [if_pos h1, if_neg h2]; simp [h2]
  · rw [if_neg h1]
    have : ¬ 1 ≤ f := h1
    simp [this]

theorem nanos_law (f s c : Int) : fuseelaw04_ScaleNanos.f 64 f s c = some true := by
  unfold fuseelaw04_ScaleNanos.f
  rw [fixed_true 64 (by decide), right_eq, right2_eq]
  simp only [Option.bind_some, if_true]
  rcases scale_cases f s with ⟨F, S, rfl, rfl, h1, h2, h3⟩ | h
  · rw [nanos_eq F S c h1 h2 h3, ref_eq F S 64 c (by decide) h2 h3]
    have : decide (1 ≤ (F : Int) ∧ (F : Int) < 4294967296 ∧ 0 ≤ (S : Int) ∧ (S : Int) ≤ 32) = true := by simp; omega
    rw [this]; simp
  · rw [nanos_no _ _ _ h, cycles_no _ _ _ _ h, decide_eq_false h]; simp

theorem cycles_law (f s n : Int) : fuseelaw04_ScaleCycles.f 65 f s n = some true := by
  unfold fuseelaw04_ScaleCycles.f
  rw [fixed_true 65 (by decide), right2_eq]
  simp only [Option.bind_some, if_true]
  rcases scale_cases f s with ⟨F, S, rfl, rfl, h1, h2, h3⟩ | h
  · have hd : decide (1 ≤ (F : Int) ∧ (F : Int) < 4294967296 ∧ 0 ≤ (S : Int) ∧ (S : Int) ≤ 32) = true := by simp; omega
    rw [hd, if_pos rfl]
    obtain ⟨c, hc, e, ha, hb⟩ := cycles_eq 65 (by decide) F S n h1 h2 h3
    rw [e]
    simp only [Option.bind_some]
    have hd2 : decide ((c : Int) > 4611686018427387903) = false := by simp; omega
    rw [if_neg (by omega), hd2, fuseelaw04_ScaleCycles.j0, if_neg (by decide), ref_eq F S 64 _ (by decide) h2 h3, cl_nat hc, cl_eq]
    simp only [Option.bind_some]
    by_cases hlt : NN F S c < cl n
    · rw [if_pos (by omega)]
      have : c = 4611686018427387903 := by rcases hb with hb | hb <;> omega
      rw [this]; rfl
    · rw [if_neg (by omega)]
      by_cases h0 : c = 0
      · rw [if_pos (by omega)]
      · rw [if_neg (by omega)]
        obtain ⟨p, rfl⟩ : ∃ p, c = p + 1 := ⟨c - 1, by omega⟩
        have ep : wrap64 (((p + 1 : Nat) : Int) - 1) = (p : Int) := by rw [wrap64_in (by omega) (by omega)]; omega
        rw [ep, ref_eq F S 64 _ (by decide) h2 h3, cl_nat (by omega)]
        have := ha p (by omega)
        simp only [Option.bind_some]
        congr 1
        simp; omega
  · rw [decide_eq_false h]; simp

theorem cl0 : cl 0 = 0 := by decide
theorem rises_law (f s a b : Int) : fuseelaw04_ScaleRises.f 64 f s a b = some true := by
  unfold fuseelaw04_ScaleRises.f
  rw [fixed_true 64 (by decide)]
  simp only [Option.bind_some, if_true]
  have hm : mn a b ≤ mx a b := by unfold mn mx; split <;> split <;> omega
  rcases scale_cases f s with ⟨F, S, rfl, rfl, h1, h2, h3⟩ | h
  · obtain ⟨c, hc, e, ha, hb⟩ := cycles_eq 64 (by decide) F S (mn a b) h1 h2 h3
    obtain ⟨c', hc', e', ha', hb'⟩ := cycles_eq 64 (by decide) F S (mx a b) h1 h2 h3
    obtain ⟨c0, hc0, e0, ha0, hb0⟩ := cycles_eq 64 (by decide) F S 0 h1 h2 h3
    have hcl := cl_mono hm
    have hz : c0 = 0 := by
      rcases Nat.eq_zero_or_pos c0 with h | h
      · exact h
      · have := ha0 0 h; rw [cl0] at this; omega
    have hcc : c ≤ c' := by
      rcases Nat.lt_or_ge c' c with h | h
      · have := ha c' h
        rcases hb' with hb' | hb' <;> omega
      · exact h
    have hnn := NN_mono F S hcl
    have hle := NN_le F S (cl (mx a b))
    rw [e, e', e0, nanos_eq F S _ h1 h2 h3, nanos_eq F S _ h1 h2 h3, nanos_eq F S _ h1 h2 h3, cl0, NN_zero, hz]
    simp only [Option.bind_some]
    rw [if_pos (by omega), if_pos (by omega), if_pos (by simp), if_pos (by simp)]
    congr 1
    simp; omega
  · simp only [nanos_no _ _ _ h, cycles_no _ _ _ _ h, Option.bind_some]
    rfl

/-! the scale of so many cycles -/
theorem round_eq (A h : Int) (hA : 0 ≤ A) (hh : 1 ≤ h) : (2 * A / h + 1) / 2 = (A + h / 2) / h := by
  obtain ⟨m, hm⟩ : ∃ m, (A + h / 2) / h = m := ⟨_, rfl⟩
  obtain ⟨q, hq⟩ : ∃ q, 2 * A / h = q := ⟨_, rfl⟩
  rw [hm, hq]
  have h1 : m * h ≤ A + h / 2 := by rw [← hm]; exact Int.ediv_mul_le _ (by omega)
  have h2 : A + h / 2 < (m + 1) * h := by rw [← hm]; exact Int.lt_ediv_add_one_mul_self _ (by omega)
  have h3 : q * h ≤ 2 * A := by rw [← hq]; exact Int.ediv_mul_le _ (by omega)
  have h4 : 2 * A < (q + 1) * h := by rw [← hq]; exact Int.lt_ediv_add_one_mul_self _ (by omega)
  rw [Int.add_mul] at h2 h4
  have g1 : 2 * m - 1 ≤ q := by
    rcases Int.lt_or_le q (2 * m - 1) with g | g
    · have : (q + 1) * h ≤ (2 * m - 1) * h := Int.mul_le_mul_of_nonneg_right (by omega) (by omega)
      rw [Int.add_mul, Int.sub_mul, Int.mul_assoc] at this
      omega
    · exact g
  have g2 : q ≤ 2 * m := by
    rcases Int.lt_or_le (2 * m) q with g | g
    · have : (2 * m + 1) * h ≤ q * h := Int.mul_le_mul_of_nonneg_right (by omega) (by omega)
      rw [Int.add_mul, Int.mul_assoc] at this
      omega
    · exact g
  omega

theorem mulP_i64 (j : Nat) (hj : j ≤ 32) : wrap64 (2 * (shl .i64 1000000000 (j : Int))) = 2 * mulP j := by
  have hb := mulP_bd j hj
  unfold shl
  have e1 : min (j : Int).toNat IntKind.i64.bits = j := by simp [IntKind.bits]; omega
  rw [e1]
  have e2 : (1000000000 : Int) * 2 ^ j = mulP j := rfl
  rw [e2]
  have e3 : IntKind.i64.wrap (mulP j) = mulP j := by rw [IntKind.wrap_i64]; omega
  rw [e3, wrap64_in (by omega) (by omega)]

theorem refmake_eq (h : Int) (h1 : 1 ≤ h) (h2 : h ≤ 1099511627776) : ∀ (j k : Nat), j ≤ 33 → j + 1 ≤ k → fuseeref04_Make.l0 k h ((j : Int) - 1) = some (makeL h j) := by
  intro j
  induction j with
  | zero =>
    intro k hj hk
    obtain ⟨k, rfl⟩ : ∃ m, k = m + 1 := ⟨k - 1, by omega⟩
    rw [fuseeref04_Make.l0, if_neg (by omega)]; rfl
  | succ j ih =>
    intro k hj hk
    obtain ⟨k, rfl⟩ : ∃ m, k = m + 1 := ⟨k - 1, by omega⟩
    have e0 : ((j + 1 : Nat) : Int) - 1 = (j : Int) := by omega
    have hb := mulP_bd j (by omega)
    have hq0 : 0 ≤ 2 * mulP j / h := Int.ediv_nonneg (by omega) (by omega)
    have hq1 : 2 * mulP j / h ≤ 2 * mulP j := Int.ediv_le_self _ (by omega)
    have er := round_eq (mulP j) h (by omega) h1
    have ef : wrap64 (Int.tdiv (wrap64 ((wrap64 (Int.tdiv (wrap64 (2 * (shl .i64 1000000000 (j : Int)))) h)) + 1)) 2) = (mulP j + h / 2) / h := by
      rw [mulP_i64 j (by omega), Int.tdiv_eq_ediv_of_nonneg (a := 2 * mulP j) (by omega)]
      obtain ⟨q, hq⟩ : ∃ q, 2 * mulP j / h = q := ⟨_, rfl⟩
      rw [hq] at hq0 hq1 er ⊢
      rw [wrap64_in (n := q) (by omega) (by omega), wrap64_in (n := q + 1) (by omega) (by omega), Int.tdiv_eq_ediv_of_nonneg (by omega), wrap64_in (by omega) (by omega), er]
    have e1 : wrap64 ((j : Int) - 1) = (j : Int) - 1 := wrap64_in (by omega) (by omega)
    rw [e0, fuseeref04_Make.l0, if_pos (by omega), if_pos (by omega), if_neg (by omega), ef, e1, makeL_step]
    by_cases hlt : (mulP j + h / 2) / h < 4294967296
    · rw [if_pos hlt, if_pos hlt]
    · rw [if_neg hlt, if_neg hlt]
      exact ih k (by omega) (by omega)

theorem makeL_right (h : Int) (h1 : 1 ≤ h) (h2 : h ≤ 1099511627776) : ∀ j : Nat, 1 ≤ j → j ≤ 33 → (j = 33 ∨ 4294967296 ≤ (mulP j + h / 2) / h) →
    ∃ F S : Nat, makeL h j = ((F : Int), (S : Int), true) ∧ 1 ≤ F ∧ F < 4294967296 ∧ S ≤ 32 := by
  intro j
  induction j with
  | zero => intro h0; omega
  | succ j ih =>
    intro _ hj hor
    have hb := mulP_bd j (by omega)
    have hm2 : mulP (j + 1) = 2 * mulP j := by unfold mulP; rw [Int.pow_succ]; omega
    have hge : h ≤ mulP j := by
      rcases hor with hor | hor
      · have : j = 32 := by omega
        subst this
        have : mulP 32 = 4294967296000000000 := by decide +kernel
        omega
      · rw [hm2] at hor
        have := Int.mul_le_of_le_ediv (by omega) hor
        omega
    have hq0 : 0 ≤ (mulP j + h / 2) / h := Int.ediv_nonneg (by omega) (by omega)
    have hq1 : 1 ≤ (mulP j + h / 2) / h := by rw [Int.le_ediv_iff_mul_le (by omega)]; omega
    rw [makeL_step]
    by_cases hlt : (mulP j + h / 2) / h < 4294967296
    · rw [if_pos hlt]
      refine ⟨((mulP j + h / 2) / h).toNat, j, ?_, by omega, by omega, by omega⟩
      rw [Int.toNat_of_nonneg hq0]
      congr 2
      simp; omega
    · rw [if_neg hlt]
      have hj0 : 1 ≤ j := by
        rcases Nat.eq_zero_or_pos j with e | e
        · subst e
          exfalso; apply hlt
          have : mulP 0 = 1000000000 := by decide +kernel
          rw [Int.ediv_lt_iff_lt_mul (by omega), this]; omega
        · exact e
      exact ih hj0 (by omega) (.inr (by omega))

theorem makes_law (h : Int) : fuseelaw04_ScaleMakes.f 80 h = some true := by
  unfold fuseelaw04_ScaleMakes.f
  rw [fixed_true 80 (by decide), make_f]
  simp only [Option.bind_some, if_true]
  have e10 : ∀ x, x < 1 ∨ 1099511627776 < x → scale_Error.f 1 0 x = some 0 := by
    intro x hx
    unfold scale_Error.f
    rw [right_eq]
    simp only [Option.bind_some]
    rw [if_pos (by decide)]
    by_cases h1 : x < 1
    · rw [if_pos h1]
    · rw [if_neg h1, if_pos (by omega)]
  by_cases h1 : h < 1
  · have e : makeP h = (0, 0, false) := by unfold makeP; rw [if_pos h1]
    rw [e, if_pos h1, fuseelaw04_ScaleMakes.j0]
    simp only [e10 h (.inl h1), Option.bind_some]; rfl
  · rw [if_neg h1]
    by_cases h2 : 1099511627776 < h
    · have e : makeP h = (0, 0, false) := by unfold makeP; rw [if_neg h1, if_pos h2]
      have hd : decide (h > 1099511627776) = true := decide_eq_true h2
      rw [e, hd, fuseelaw04_ScaleMakes.j0]
      simp only [e10 h (.inr h2), Option.bind_some]; rfl
    · have e : makeP h = makeL h 33 := by unfold makeP; rw [if_neg h1, if_neg h2]
      have hd : decide (h > 1099511627776) = false := decide_eq_false h2
      obtain ⟨F, S, em, g1, g2, g3⟩ := makeL_right h (by omega) (by omega) 33 (by decide) (by decide) (.inl rfl)
      have hr : decide (1 ≤ (F : Int) ∧ (F : Int) < 4294967296 ∧ 0 ≤ (S : Int) ∧ (S : Int) ≤ 32) = true := by simp; omega
      have hN := NN_le F S (cl h)
      have eE : scale_Error.f (F : Int) (S : Int) h = some (wrap64 (((NN F S (cl h) : Nat) : Int) - 1000000000)) := by
        unfold scale_Error.f
        rw [right_eq, hr]
        simp only [Option.bind_some, if_true]
        rw [if_neg h1, if_neg h2, nanos_eq F S h g1 g2 g3]
        rfl
      have em2 := refmake_eq h (by omega) (by omega) 33 79 (by decide) (by decide)
      rw [em] at em2
      rw [e, em, hd, fuseelaw04_ScaleMakes.j0, if_neg (by decide)]
      by_cases h4 : h < 4
      · rw [if_pos h4, if_pos rfl, right2_eq, hr]; rfl
      · rw [if_neg h4]
        by_cases h5 : h ≥ 1000
        · rw [if_pos h5]
          have : fuseeref04_Make.f 79 h = some ((F : Int), (S : Int), true) := em2
          rw [this]
          simp only [Option.bind_some]
          rw [if_neg (by omega), fuseelaw04_ScaleMakes.j1, if_pos rfl, eE, ref_eq F S 78 h (by decide) g2 g3]
          simp only [Option.bind_some, if_true]
          rw [if_neg (by omega)]
          simp
        · rw [if_neg h5, fuseelaw04_ScaleMakes.j1, if_pos rfl, eE, ref_eq F S 78 h (by decide) g2 g3]
          simp only [Option.bind_some, if_true]
          rw [if_pos (by omega)]
end Go.Proofs.Ytfpheadbcemmiaa.Sc
