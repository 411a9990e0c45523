/- The fixed answers of a set of alarms. Conditions: none. -/
import Derived.Test.YtiaapecdhcibnaaWkM
set_option linter.unnecessarySimpa false
set_option linter.unusedVariables false
set_option linter.unusedSimpArgs false
namespace Go.Wk
open Go Go.Sp
def al4 : Alarm := ⟨4, 420, 1, false⟩
def al4o : Alarm := ⟨4, 420, 1, true⟩
theorem x1 : addE [] al4 = 0 := by kernel_rfl
theorem x2 : addL [] al4 = [al4] := by kernel_rfl
theorem g1 : GoodA [al4] := x2 ▸ addL_good good_nil
theorem x3 : nextN [al4] 9060 = 1440 := by kernel_rfl
theorem x4 : nextR [al4] 9060 = [4] := by kernel_rfl
theorem x5 : ringsL [al4] (-9660) = [4] := by kernel_rfl
theorem x6 : addE [al4] ⟨4, 0, 1, false⟩ = 9 := by kernel_rfl
theorem x7 : addL [al4] ⟨4, 0, 1, false⟩ = [al4] := by kernel_rfl
theorem x8 : addE [al4] ⟨0, 0, 128, false⟩ = 2 := by kernel_rfl
theorem x9 : addL [al4] ⟨0, 0, 128, false⟩ = [al4] := by kernel_rfl
theorem x10 : hasA [al4] 4 = true := by kernel_rfl
theorem x11 : swL [al4] 4 true = [al4o] := by kernel_rfl
theorem g2 : GoodA [al4o] := x11 ▸ swL_good g1
theorem x12 : ringsL [al4o] 420 = [] := by kernel_rfl
theorem x13 : hasA [al4o] 4 = true := by kernel_rfl
theorem x14 : dropL [al4o] 4 = [] := by kernel_rfl
theorem x15 : hasA [] 4 = false := by kernel_rfl
theorem x16 : dropL [] 4 = [] := by kernel_rfl
theorem betL_add (l : List Alarm) (f : Int) (a : Nat) : ∀ b, betL l f (a + b) = betL l f a ++ betL l (f + a) b
  | 0 => by simp [betL]
  | b + 1 => by
    rw [← Nat.add_assoc, ← betL_step, betL_add l f a b, ← betL_step, List.append_assoc]
    congr 3; rw [Int.natCast_add]; omega
theorem betL_none {l : List Alarm} {f : Int} : ∀ {c : Nat}, (∀ i : Nat, i < c → ringsL l (f + i) = []) → betL l f c = []
  | 0, _ => by simp [betL]
  | c + 1, h => by rw [← betL_step, betL_none (fun i hi => h i (by omega)), h c (by omega)]; rfl
theorem one_pow {k : Nat} (h : (1 : Int) / 2 ^ k % 2 = 1) : k = 0 := by
  cases k with
  | zero => rfl
  | succ k =>
    have h2 : (0 : Int) < 2 ^ k := Int.pow_pos (by omega)
    have h3 : (1 : Int) / 2 ^ (k + 1) = 0 := Int.ediv_eq_zero_of_lt (by omega) (by rw [Int.pow_succ]; omega)
    rw [h3] at h; cases h
theorem r4 {m : Int} (h : m % 10080 ≠ 420) : ringsL [al4] m = [] := by
  have : ringsA al4 (m % 10080) = false := by
    rw [Bool.eq_false_iff]
    intro h1
    simp only [ringsA, al4, Bool.not_false, Bool.true_and, Bool.and_eq_true] at h1
    have h2 := of_decide_eq_true h1.1
    have := one_pow (of_decide_eq_true h1.2)
    omega
  simp [ringsL, this]
theorem r4y {m : Int} (h : m % 10080 = 420) : ringsL [al4] m = [4] := by
  have : ringsA al4 (m % 10080) = true := by rw [h]; kernel_rfl
  have e : ringsL [al4] m = (List.filter (fun a => ringsA a (m % 10080)) [al4]).map Alarm.id := rfl
  rw [e]; simp only [List.filter, this]; rfl
theorem b4 {f : Int} : betL [al4] f 1 = ringsL [al4] f := by simp [betL]
theorem x17 : betL [al4] 0 20160 = [4, 4] := by
  rw [show (20160 : Nat) = 420 + (1 + (10079 + (1 + 9659))) by rfl, betL_add, betL_add, betL_add, betL_add, betL_none (c := 420), betL_none (c := 10079), betL_none (c := 9659), b4, b4, r4y, r4y]
  · rfl
  · decide
  · decide
  · intro i hi; exact r4 (by omega)
  · intro i hi; exact r4 (by omega)
  · intro i hi; exact r4 (by omega)
end Go.Wk
