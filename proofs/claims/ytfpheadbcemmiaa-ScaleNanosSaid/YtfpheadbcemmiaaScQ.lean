import Derived.Test.YtfpheadbcemmiaaScN
namespace Go.Proofs.Ytfpheadbcemmiaa.Sc
open Go.RowKit Go.Proofs.YtfpheadbcemmiaaW.PrintWords Go.Proofs.YtfpheadbcemmiaaW.PrintLast Go.Proofs.YtfpheadbcemmiaaW.PrintMore
open PSc
set_option linter.unusedVariables false
set_option linter.unusedSimpArgs false

theorem wrap64_in {n : Int} (h0 : -9223372036854775808 ≤ n) (h1 : n < 9223372036854775808) : wrap64 n = n := by unfold wrap64; omega
theorem mn_le {a b : Int} (h : a ≤ b) : mn a b = a := by unfold mn; rw [if_neg (by omega)]
theorem mn_ge {a b : Int} (h : b ≤ a) : mn a b = b := by unfold mn; split <;> omega
theorem mx_eq (a b : Int) : mx a b = if a < b then b else a := rfl

/-- a number, brought into its bounds -/
def cl (c : Int) : Nat := (mn (mx c 0) 4611686018427387903).toNat
theorem cl_eq (c : Int) : mn (mx c 0) 4611686018427387903 = (cl c : Int) := by unfold cl mn mx; split <;> split <;> omega
theorem cl_le (c : Int) : cl c ≤ 4611686018427387903 := by unfold cl mn mx; split <;> split <;> omega
theorem cl_mono {a b : Int} (h : a ≤ b) : cl a ≤ cl b := by unfold cl mn mx; repeat' split <;> omega
theorem cl_nat {n : Nat} (h : n ≤ 4611686018427387903) : cl (n : Int) = n := by unfold cl mn mx; repeat' split <;> omega

/-- what cycles come to -/
def NN (f s : Nat) (c : Nat) : Nat := min (c * f / 2 ^ s) 4611686018427387903
theorem NN_le (f s c : Nat) : NN f s c ≤ 4611686018427387903 := Nat.min_le_right _ _
theorem NN_mono (f s : Nat) {a b : Nat} (h : a ≤ b) : NN f s a ≤ NN f s b := by
  unfold NN
  have : a * f / 2 ^ s ≤ b * f / 2 ^ s := Nat.div_le_div_right (Nat.mul_le_mul_right f h)
  omega
theorem NN_zero (f s : Nat) : NN f s 0 = 0 := by simp [NN]

theorem right_eq (f s : Int) : scale_Right.f f s = some (decide (1 ≤ f ∧ f < 4294967296 ∧ 0 ≤ s ∧ s ≤ 32)) := by
  unfold scale_Right.f
  by_cases h1 : 1 ≤ f
  · by_cases h2 : f < 4294967296
    · by_cases h3 : 0 ≤ s
      · rw [if_pos h1, if_pos h2, if_pos h3]; simp [h1, h2, h3]
      · rw [if_pos h1, if_pos h2, if_neg h3]; simp [h3]
    · rw [if_pos h1, if_neg h2]; simp [h2]
  · rw [if_neg h1]; simp [h1]

theorem shr_nat (x s : Nat) (hs : s ≤ 64) : shr .u64 (x : Int) (s : Int) = ((x / 2 ^ s : Nat) : Int) := by
  unfold shr
  have : min (s : Int).toNat IntKind.u64.bits = s := by simp [IntKind.bits]; omega
  rw [this]; simp
theorem shl_nat (x s : Nat) (hs : s ≤ 64) (hx : x * 2 ^ s < 18446744073709551616) : shl .u64 (x : Int) (s : Int) = ((x * 2 ^ s : Nat) : Int) := by
  unfold shl
  have : min (s : Int).toNat IntKind.u64.bits = s := by simp [IntKind.bits]; omega
  rw [this, ← wrap_nat hx]; simp

theorem parts_or (x s : Nat) (hs : s ≤ 32) (h : x / 18446744073709551616 / 2 ^ s = 0) :
    (x % 18446744073709551616 / 2 ^ s) ||| (x / 18446744073709551616 * 2 ^ (64 - s)) = x / 2 ^ s ∧ x / 18446744073709551616 * 2 ^ (64 - s) < 18446744073709551616 ∧ x % 18446744073709551616 / 2 ^ s < 18446744073709551616 := by
  have e64 : (18446744073709551616 : Nat) = 2 ^ (64 - s) * 2 ^ s := by rw [← Nat.pow_add]; rw [show 64 - s + s = 64 by omega]
  have hp : 0 < 2 ^ s := Nat.two_pow_pos s
  have hh : x / 18446744073709551616 < 2 ^ s := by
    rcases Nat.lt_or_ge (x / 18446744073709551616) (2 ^ s) with h' | h'
    · exact h'
    · have := Nat.div_pos h' hp; omega
  have hl : x % 18446744073709551616 / 2 ^ s < 2 ^ (64 - s) := by
    rw [Nat.div_lt_iff_lt_mul hp, ← e64]; exact Nat.mod_lt _ (by decide)
  have hor : (x % 18446744073709551616 / 2 ^ s) ||| (x / 18446744073709551616 * 2 ^ (64 - s)) = x / 18446744073709551616 * 2 ^ (64 - s) + x % 18446744073709551616 / 2 ^ s := by
    rw [Nat.or_comm, Nat.mul_comm, ← Nat.two_pow_add_eq_or_of_lt hl]
  refine ⟨?_, ?_, ?_⟩
  · rw [hor]
    have : x = x / 18446744073709551616 * 2 ^ (64 - s) * 2 ^ s + x % 18446744073709551616 := by
      rw [Nat.mul_assoc, ← e64]; omega
    conv => rhs; rw [this]
    rw [Nat.add_comm (_ * 2 ^ s), Nat.add_mul_div_right _ _ hp, Nat.add_comm]
  · have : x / 18446744073709551616 * 2 ^ (64 - s) < 2 ^ s * 2 ^ (64 - s) := (Nat.mul_lt_mul_right (Nat.two_pow_pos _)).2 hh
    rw [Nat.mul_comm (2 ^ s), ← e64] at this; exact this
  · have := Nat.div_le_self (x % 18446744073709551616) (2 ^ s)
    have := Nat.mod_lt x (show 0 < 18446744073709551616 by decide)
    omega

theorem nanos_eq (f s : Nat) (c : Int) (hf0 : 1 ≤ f) (hf : f < 4294967296) (hs : s ≤ 32) : scale_Nanos.f (f : Int) (s : Int) c = some ((NN f s (cl c) : Nat) : Int) := by
  unfold scale_Nanos.f scale_clamp.f
  rw [right_eq]
  have hr : decide (1 ≤ (f : Int) ∧ (f : Int) < 4294967296 ∧ 0 ≤ (s : Int) ∧ (s : Int) ≤ 32) = true := by simp; omega
  have hc := cl_le c
  rw [hr, cl_eq]
  simp only [Option.bind_some, if_true]
  generalize cl c = x at *
  have hx : x * f < 18446744073709551616 * 4294967296 := Nat.mul_lt_mul'' (by omega) hf
  rw [wrap_nat (n := f) (by omega), wrap_nat (n := s) (by omega), mul_nat x f (by omega) (by omega)]
  simp only [Option.bind_some]
  rw [if_pos (by omega), shr_nat _ _ (by omega), shr_nat _ _ (by omega)]
  have hp : 0 < 2 ^ s := Nat.two_pow_pos s
  by_cases h0 : x * f / 18446744073709551616 / 2 ^ s = 0
  · rw [if_pos (by rw [h0]; rfl)]
    obtain ⟨e1, e2, e3⟩ := parts_or (x * f) s hs h0
    by_cases hs0 : (s : Int) > 0
    · rw [if_pos hs0]
      have e64 : wrap64 (64 - (s : Int)) = ((64 - s : Nat) : Int) := by rw [wrap64_in (by omega) (by omega)]; omega
      rw [e64, wrap_nat (n := 64 - s) (by omega), if_pos (by omega), shl_nat _ _ (by omega) e2, bits_or_u64_nat _ _ e3 e2, e1]
      congr 1
      unfold NN mn
      split <;> rw [wrap64_in] <;> omega
    · rw [if_neg hs0]
      have : s = 0 := by omega
      subst this
      have e5 : x * f % 18446744073709551616 / 2 ^ 0 = x * f / 2 ^ 0 := by
        simp at h0 ⊢; omega
      rw [e5]
      congr 1
      unfold NN mn
      split <;> rw [wrap64_in] <;> omega
  · rw [if_neg (show ¬ (((x * f / 18446744073709551616 / 2 ^ s : Nat) : Int) = 0) from fun h => h0 (by exact_mod_cast h))]
    congr 1
    have h1 : 18446744073709551616 ≤ x * f / 2 ^ s := by
      rw [Nat.le_div_iff_mul_le hp]
      have h2 : 1 ≤ x * f / 18446744073709551616 / 2 ^ s := Nat.one_le_iff_ne_zero.2 h0
      rw [Nat.le_div_iff_mul_le hp, Nat.one_mul] at h2
      rw [Nat.le_div_iff_mul_le (by decide)] at h2
      rw [Nat.mul_comm]; exact h2
    unfold NN; omega
theorem nanos_no (f s c : Int) (h : ¬ (1 ≤ f ∧ f < 4294967296 ∧ 0 ≤ s ∧ s ≤ 32)) : scale_Nanos.f f s c = some 0 := by
  unfold scale_Nanos.f
  rw [right_eq, decide_eq_false h]
  simp

/-- the least of which as much comes, or the greatest: by halving -/
theorem cyc_loop (f s want M : Nat) (hM : M ≤ 4611686018427387903) (hf0 : 1 ≤ f) (hf : f < 4294967296) (hs : s ≤ 32) (d : Nat) : ∀ (lo hi : Nat), hi - lo < 2 ^ d → lo ≤ hi → hi ≤ M →
    (∀ c : Nat, c < lo → NN f s c < want) → (hi = M ∨ want ≤ NN f s hi) →
    ∃ c : Nat, c ≤ M ∧ scale_Cycles.l0 (d + 1) (want : Int) (lo : Int) (hi : Int) (f : Int) (s : Int) = some (c : Int) ∧ (∀ c' : Nat, c' < c → NN f s c' < want) ∧ (c = M ∨ want ≤ NN f s c) := by
  induction d with
  | zero =>
    intro lo hi h1 h2 h3 h4 h5
    have : lo = hi := by simp at h1; omega
    subst this
    exact ⟨lo, h3, by simp only [scale_Cycles.l0]; rw [if_neg (by omega)], h4, h5⟩
  | succ d ih =>
    intro lo hi h1 h2 h3 h4 h5
    rw [Nat.pow_succ] at h1
    generalize 2 ^ d = P at h1 ih
    rw [scale_Cycles.l0]
    by_cases hlt : lo < hi
    · rw [if_pos (by omega)]
      have em : wrap64 ((lo : Int) + (wrap64 (Int.tdiv (wrap64 ((hi : Int) - (lo : Int))) 2))) = ((lo + (hi - lo) / 2 : Nat) : Int) := by
        rw [wrap64_in (n := (hi : Int) - lo) (by omega) (by omega), Int.tdiv_eq_ediv_of_nonneg (by omega), wrap64_in (n := ((hi : Int) - lo) / 2) (by omega) (by omega), wrap64_in (by omega) (by omega)]
        omega
      obtain ⟨m, hm⟩ : ∃ m, lo + (hi - lo) / 2 = m := ⟨_, rfl⟩
      rw [em, hm]
      clear em
      rw [nanos_eq f s _ hf0 hf hs, cl_nat (by omega)]
      simp only [Option.bind_some]
      by_cases hc : want ≤ NN f s m
      · rw [if_pos (by omega)]
        have g1 : m - lo < P := by clear h4 h5 hc ih; omega
        exact ih lo m g1 (by omega) (by omega) h4 (.inr hc)
      · rw [if_neg (by omega)]
        have e1 : wrap64 ((m : Int) + 1) = ((m + 1 : Nat) : Int) := by rw [wrap64_in (by omega) (by omega)]; omega
        rw [e1]
        clear e1
        have g1 : hi - (m + 1) < P := by clear h4 h5 hc ih; omega
        refine ih (m + 1) hi g1 (by omega) h3 ?_ h5
        intro c hc'
        have := NN_mono f s (a := c) (b := m) (by omega)
        omega
    · have : lo = hi := by omega
      subst this
      rw [if_neg (by omega)]
      exact ⟨lo, h3, rfl, h4, h5⟩

theorem cycles_eq (k : Nat) (hk : 64 ≤ k) (f s : Nat) (n : Int) (hf0 : 1 ≤ f) (hf : f < 4294967296) (hs : s ≤ 32) :
    ∃ c : Nat, c ≤ 4611686018427387903 ∧ scale_Cycles.f k (f : Int) (s : Int) n = some (c : Int) ∧ (∀ c' : Nat, c' < c → NN f s c' < cl n) ∧ (c = 4611686018427387903 ∨ cl n ≤ NN f s c) := by
  obtain ⟨c, h1, h2, h3, h4⟩ := cyc_loop f s (cl n) 4611686018427387903 (by omega) hf0 hf hs (k - 1) 0 4611686018427387903 (by
    have := Nat.pow_le_pow_right (n := 2) (by omega) (show 63 ≤ k - 1 by omega); omega) (by omega) (by omega) (fun c h => by omega) (.inl rfl)
  refine ⟨c, h1, ?_, h3, h4⟩
  unfold scale_Cycles.f scale_clamp.f
  rw [right_eq]
  have hr : decide (1 ≤ (f : Int) ∧ (f : Int) < 4294967296 ∧ 0 ≤ (s : Int) ∧ (s : Int) ≤ 32) = true := by simp; omega
  have hcl := cl_le n
  rw [hr, cl_eq]
  simp only [Option.bind_some, if_true]
  rw [wrap64_in (by omega) (by omega)]
  rw [show k - 1 + 1 = k by omega] at h2
  exact h2
theorem cycles_no (k : Nat) (f s c : Int) (h : ¬ (1 ≤ f ∧ f < 4294967296 ∧ 0 ≤ s ∧ s ≤ 32)) : scale_Cycles.f k f s c = some 0 := by
  unfold scale_Cycles.f
  rw [right_eq, decide_eq_false h]
  simp
theorem scale_cases (f s : Int) : (∃ F S : Nat, f = F ∧ s = S ∧ 1 ≤ F ∧ F < 4294967296 ∧ S ≤ 32) ∨ ¬ (1 ≤ f ∧ f < 4294967296 ∧ 0 ≤ s ∧ s ≤ 32) := by
  by_cases h : 1 ≤ f ∧ f < 4294967296 ∧ 0 ≤ s ∧ s ≤ 32
  · exact .inl ⟨f.toNat, s.toNat, by omega, by omega, by omega, by omega, by omega⟩
  · exact .inr h
end Go.Proofs.Ytfpheadbcemmiaa.Sc
