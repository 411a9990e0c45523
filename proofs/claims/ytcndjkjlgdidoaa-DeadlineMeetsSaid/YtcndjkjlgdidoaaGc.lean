import Derived.Test.YtcndjkjlgdidoaaGb
namespace Go.Proofs.Ytcndjkjlgdidoaa.Da
open Go.RowKit Go.Proofs.YtcndjkjlgdidoaaW.PrintWords Go.Proofs.YtcndjkjlgdidoaaW.PrintLast Go.Proofs.YtcndjkjlgdidoaaW.PrintMore
open PDl
set_option linter.unusedVariables false
set_option linter.unusedSimpArgs false

theorem meets_loop (N : Nat) (a : Int) (ha : wrap64 (Int.tmod a 6000) = (N : Int)) (did : List Int) (hd : did.length = N) (idle : Int) (hi : idle ≤ N) (n : Nat) (hn : n ≤ 16) : ∀ (m i k : Nat), i + m = n → m < k →
    fuseelaw34_DeadlineMeets.l0 k a (List.replicate n 0) (n : Int) (i : Int) did (List.replicate n 0) idle = some true := by
  intro m
  induction m with
  | zero =>
    intro i k him hk
    obtain ⟨k, rfl⟩ : ∃ m, k = m + 1 := ⟨k - 1, by omega⟩
    rw [fuseelaw34_DeadlineMeets.l0, if_neg (by omega), ha, if_pos (by omega), hd]
    simp [hi]
  | succ m ih =>
    intro i k him hk
    obtain ⟨k, rfl⟩ : ∃ m, k = m + 1 := ⟨k - 1, by omega⟩
    have e1 : wrap64 ((i : Int) + 1) = ((i + 1 : Nat) : Int) := by rw [wrap64_in (by omega) (by omega)]; omega
    have e2 : rd (List.replicate n (0 : Int)) (i : Int) = 0 := by
      unfold rd; rw [Int.toNat_natCast, List.getD_eq_getElem?_getD, List.getElem?_replicate]; split <;> rfl
    rw [fuseelaw34_DeadlineMeets.l0, if_pos (by omega), if_pos (by omega), List.length_replicate, if_pos (by omega), e2, if_pos rfl, e1]
    exact ih (i + 1) k (by omega) (by omega)

theorem meets_law (l : List S35) (hl : l.length ≤ 9223372036854775807) (a : Int) (h0 : 0 ≤ a) : ∃ k, fuseelaw34_DeadlineMeets.f k l a = some true := by
  obtain ⟨q, hq⟩ : ∃ q, q = 2000 := ⟨_, rfl⟩
  refine ⟨q + 1, ?_⟩
  unfold fuseelaw34_DeadlineMeets.f fuseelaw34_fixed.f
  simp only [Option.bind_some, if_true]
  by_cases h30 : (l.length : Int) > 30
  · rw [if_pos h30, fuseelaw34_DeadlineMeets.j0, if_pos rfl]
  · rw [if_neg h30]
    cases hr : rightB l with
    | false =>
      rw [fits_no l hl hr _ (by omega)]
      simp only [Option.bind_some]
      rw [fuseelaw34_DeadlineMeets.j0]; rfl
    | true =>
      have hn : l.length ≤ 16 := by unfold rightB at hr; simp at hr; omega
      have ho := right_tasks hr
      rw [fits_eq l hr _ (by omega)]
      simp only [Option.bind_some]
      cases hf : fitsB l with
      | false => rw [fuseelaw34_DeadlineMeets.j0]; rfl
      | true =>
        obtain ⟨N, hN⟩ : ∃ N : Nat, a % 6000 = N := ⟨(a % 6000).toNat, by omega⟩
        have hN6 : N < 6000 := by omega
        have ew : wrap64 (Int.tmod a 6000) = (N : Int) := by rw [Int.tmod_eq_emod_of_nonneg h0, hN, wrap64_in (by omega) (by omega)]
        have hI := run_inv l ho hf N
        have hB := run_bounds ho N
        have hM : (List.range l.length).map (run l N).M = List.replicate l.length 0 := by
          apply List.ext_getElem?
          intro i
          rw [List.getElem?_map, List.getElem?_replicate]
          by_cases hi : i < l.length
          · rw [List.getElem?_range hi, if_pos hi]; simp [hI.M i]
          · rw [if_neg hi, List.getElem?_eq_none (by simp; omega)]; rfl
        have hP : deadline_Play.f l (N : Int) = some ((run l N).did, List.replicate l.length 0, (run l N).idle) := by
          unfold deadline_Play.f playO
          rw [if_neg (by omega), if_pos hr, Int.toNat_natCast, hM]
        rw [fuseelaw34_DeadlineMeets.j0, if_neg (by decide), ew, hP]
        simp only [Option.bind_some]
        rw [List.length_replicate]
        have h1 := hB.d
        have h2 := hB.I
        exact meets_loop N a ew _ (by omega) _ (by omega) l.length hn l.length 0 q (by omega) (by omega)
end Go.Proofs.Ytcndjkjlgdidoaa.Da
