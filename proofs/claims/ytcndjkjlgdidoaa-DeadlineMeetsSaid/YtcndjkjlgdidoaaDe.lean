import Derived.Test.YtcndjkjlgdidoaaDd
namespace Go.Proofs.Ytcndjkjlgdidoaa.Da
open Go.RowKit Go.Proofs.YtcndjkjlgdidoaaW.PrintWords Go.Proofs.YtcndjkjlgdidoaaW.PrintLast Go.Proofs.YtcndjkjlgdidoaaW.PrintMore
open PDl
attribute [local go_sem] max2_int min2_int max_two min_two max_three min_three max_four min_four
set_option linter.unusedVariables false
set_option linter.unusedSimpArgs false

set_option maxHeartbeats 1000000 in
set_option maxRecDepth 100000 in
theorem play_no (A0 : Option Addr) (c0 : Nat) (l : List S35) (a : Int) (w : World) (hr : Kd.C k35 w A0 l.length l) (hc : l.length ≤ c0) (hR : rightB l = false) :
    Calls Try.prog 7 #[.slice A0 l.length c0, .int .i64 a] w fun e w' => ∃ v0_ v1_ : Value, e = .returned (.agg #[v0_, v1_, .int .i64 0]) ∧ Kd.R (Kd.int .i64) 3 w' w.heap.size (fun k_ => some k_ ≠ (v1_ : Value).ownBlock) v0_ [] ∧ Kd.R (Kd.int .i64) 3 w' w.heap.size (fun k_ => some k_ ≠ (v0_ : Value).ownBlock) v1_ [] ∧ Below w.heap.size w w' := by
  have HR0 := Aside0.mk hr
  have HRB := Aside0.mk hR
  have HQ := Aside0.mk (right_eq l hr.2.1 (l.length + 1) (by omega))
  clear hr
  go_enter Try.func7, Try.ntmps7
  go_wp2_with fail
  refine (deadline_Right.calls (l.length + 1) A0 c0 l false _ (Kd.C_below HR0.out (below_alloc (Below.refl _ _) _)) hc (by rw [HQ.out, HRB.out])).mono ?_
  rintro e w1 ⟨rfl, hb1⟩
  have HB1 : Aside0 (Below w.heap.size w w1) := ⟨(below_alloc (Below.refl w.heap.size w) (.cells #[.slice none 0 0, .slice none 0 0, .int .i64 0] 26)).trans (hb1.mono (by simp))⟩
  have HRC : Aside0 (w1.heap[w.heap.size]? = some (.cells #[.slice none 0 0, .slice none 0 0, .int .i64 0] 26 (0, 0))) := ⟨(hb1.block w.heap.size (by simp)).trans (heap_alloc_new w _)⟩
  have hwlt := lt_of_block HRC.out
  have hrc0 : w1.cell? ⟨w.heap.size, 0, none⟩ = some (.slice none 0 0) := (blk_cell HRC.out 0).trans rfl
  have hrc1 : w1.cell? ⟨w.heap.size, 1, none⟩ = some (.slice none 0 0) := (blk_cell HRC.out 1).trans rfl
  have hrc2 : w1.cell? ⟨w.heap.size, 2, none⟩ = some (.int .i64 0) := (blk_cell HRC.out 2).trans rfl
  have hrf0 := blk_frozen HRC.out 0
  have hrf1 := blk_frozen HRC.out 1
  have hrf2 := blk_frozen HRC.out 2
  clear hb1
  go_wp2_with fail
  refine bodyPost_ret (v := .agg #[.slice none 0 0, .slice none 0 0, .int .i64 0]) (by simp [results, Try.results7, go_sem, hwlt, hrc0, hrc1, hrc2]) rfl ⟨_, _, rfl, Kd.R_nil _ _ _ _ _, Kd.R_nil _ _ _ _ _, ?_⟩
  exact ((HB1.out.setCell (p := ⟨w.heap.size, 0, none⟩) (Nat.le_refl _) _).setCell (p := ⟨w.heap.size, 1, none⟩) (Nat.le_refl _) _).setCell (p := ⟨w.heap.size, 2, none⟩) (Nat.le_refl _) _

/-- what Play tells, of at most 20000 ticks -/
def playO (l : List S35) (a : Int) : Option (List Int × List Int × Int) :=
  if 20000 < a then none else if rightB l = true then some ((run l a.toNat).did, (List.range l.length).map (run l a.toNat).M, (run l a.toNat).idle) else some ([], [], 0)
theorem play_any (A0 : Option Addr) (c0 : Nat) (l : List S35) (a : Int) (r1 r2 : List Int) (r3 : Int) (w : World) (hr : Kd.C k35 w A0 l.length l) (hc : l.length ≤ c0) (h : playO l a = some (r1, r2, r3)) :
    Calls Try.prog 7 #[.slice A0 l.length c0, .int .i64 a] w fun e w' => ∃ v0_ v1_ : Value, e = .returned (.agg #[v0_, v1_, .int .i64 r3]) ∧ Kd.R (Kd.int .i64) 3 w' w.heap.size (fun k_ => some k_ ≠ (v1_ : Value).ownBlock) v0_ r1 ∧ Kd.R (Kd.int .i64) 3 w' w.heap.size (fun k_ => some k_ ≠ (v0_ : Value).ownBlock) v1_ r2 ∧ Below w.heap.size w w' := by
  unfold playO at h
  by_cases h1 : 20000 < a
  · rw [if_pos h1] at h; cases h
  · rw [if_neg h1] at h
    by_cases h2 : rightB l = true
    · rw [if_pos h2] at h
      obtain ⟨rfl, h'⟩ := Prod.mk.injEq .. ▸ Option.some.inj h
      obtain ⟨rfl, rfl⟩ := Prod.mk.injEq .. ▸ h'
      by_cases h3 : a < 0
      · have e : a.toNat = 0 := by omega
        rw [e]
        exact play_down A0 c0 l a h3 w hr hc h2
      · obtain ⟨N, rfl⟩ : ∃ N : Nat, a = N := ⟨a.toNat, by omega⟩
        rw [Int.toNat_natCast]
        exact play_up A0 c0 l N (by omega) w hr hc h2
    · rw [if_neg h2] at h
      obtain ⟨rfl, h'⟩ := Prod.mk.injEq .. ▸ Option.some.inj h
      obtain ⟨rfl, rfl⟩ := Prod.mk.injEq .. ▸ h'
      exact play_no A0 c0 l a w hr hc (by simpa using h2)

end Go.Proofs.Ytcndjkjlgdidoaa.Da
