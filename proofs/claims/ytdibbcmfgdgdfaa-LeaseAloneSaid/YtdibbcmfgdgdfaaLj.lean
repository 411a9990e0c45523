import Derived.Test.YtdibbcmfgdgdfaaLi
namespace Go.Proofs.Ytdibbcmfgdgdfaa.Le
open Go.RowKit Go.Proofs.YtdibbcmfgdgdfaaW.PrintWords Go.Proofs.YtdibbcmfgdgdfaaW.PrintLast Go.Proofs.YtdibbcmfgdgdfaaW.PrintMore
open PLe
set_option linter.unusedVariables false
/-- what LeaseAlone keeps in hand, against the desk -/
structure Al (s : Dk) (gr now who en tok : Int) (k : Nat) : Prop where
  fgr : s.grace = gr
  g1 : 0 ≤ gr ∧ gr ≤ 255
  low : -4611686018427387903 ≤ s.now
  fnow : s.now ≤ now
  n0 : 0 ≤ now
  n1 : now ≤ 7 * k
  ftok : s.tok 9 = tok
  t0 : 0 ≤ tok
  t1 : tok ≤ k
  w0 : 0 ≤ who
  w1 : who ≤ 4
  e0 : 0 ≤ en
  e1 : en ≤ 7 * k + 16
  fgiv : s.giv 9 = decide (who = 0)
  fwho : who ≠ 0 → s.who 9 = who ∧ s.en 9 = en
  fen : who = 0 → en = 0
theorem Al.start (gr : Int) (h0 : 0 ≤ gr) (h1 : gr ≤ 255) : Al (newD gr 256) gr 0 0 0 0 0 :=
  ⟨rfl, ⟨h0, h1⟩, by simp [newD], by simp [newD], by omega, by omega, rfl, by omega, by omega, by omega, by omega, by omega, by omega, by simp [newD], fun h => absurd rfl h, fun _ => rfl⟩
section
variable {s : Dk} {gr now who en tok : Int} {k : Nat} (h : Al s gr now who en tok k) (hk : k < 150)
include h hk
theorem Al.tick (d : Int) (d0 : 0 ≤ d) (d1 : d ≤ 7) : (tickD s (now + d)).now = now + d := by
  have := h.low; have := h.fnow; have := h.n0; have := h.n1
  show mx s.now (clI (now + d)) = now + d
  have e : clI (now + d) = now + d := by unfold clI mn mx; repeat' split <;> omega
  rw [e]; unfold mx; split <;> omega
theorem Al.next (d : Int) (d0 : 0 ≤ d) (d1 : d ≤ 7) : Al (tickD s (now + d)) gr (now + d) who en tok (k + 1) := by
  have e := h.tick hk d d0 d1
  have a1 := h.n0; have a2 := h.n1; have a3 := h.t1; have a4 := h.e1
  exact ⟨h.fgr, h.g1, by rw [e]; omega, by rw [e]; omega, by omega, by omega, h.ftok, h.t0, by omega, h.w0, h.w1, h.e0, by omega, h.fgiv, h.fwho, h.fen⟩
omit hk in
theorem Al.again (hn : s.now = now) (hk : k ≤ 150) : tickD s now = s := by
  have a1 := h.n0; have a2 := h.n1
  have e : clI now = now := by unfold clI mn mx; repeat' split <;> omega
  unfold tickD
  rw [e, hn]
  have : mx now now = now := by unfold mx; split <;> rfl
  rw [this, ← hn]
omit hk in
theorem Al.held (hn : s.now = now) : heldB s 9 = decide (now < en) := by
  unfold heldB
  rw [h.fgiv, hn]
  by_cases e : who = 0
  · have := h.fen e; have := h.n0
    rw [decide_eq_true e]; simp; omega
  · rw [decide_eq_false e, (h.fwho e).2]; simp
omit hk in
theorem Al.sub (hn : s.now = now) (hk : k ≤ 150) : subI now en = now - en := by
  have a1 := h.n0; have a2 := h.n1; have a3 := h.e0; have a4 := h.e1
  unfold subI
  rw [if_neg (by omega)]
  have e : clI now = now := by unfold clI mn mx; repeat' split <;> omega
  have e2 : clI en = en := by unfold clI mn mx; repeat' split <;> omega
  rw [e, e2]
  unfold clI mn mx; repeat' split <;> omega
omit hk in
theorem Al.add (lg : Int) (l0 : 1 ≤ lg) (l1 : lg ≤ 16) (hk : k ≤ 150) : addI now lg = now + lg := by
  have a1 := h.n0; have a2 := h.n1
  unfold addI
  rw [if_neg (by omega)]
  have e : clI now = now := by unfold clI mn mx; repeat' split <;> omega
  have e2 : clI lg = lg := by unfold clI mn mx; repeat' split <;> omega
  rw [e, e2]
  unfold clI mn mx; repeat' split <;> omega
omit hk in
theorem Al.free (hn : s.now = now) (hk : k ≤ 150) (nx : Int) (hb : takeB s 9 nx = false) : ¬ now < en ∧ (who = 0 ∨ (who ≠ 0 ∧ nx = who) ∨ (who ≠ 0 ∧ nx ≠ who ∧ ¬ now < en + gr)) := by
  unfold takeB at hb
  rw [h.held hn, h.fgiv, hn, h.fgr] at hb
  simp only [Bool.or_eq_false_iff, decide_eq_false_iff_not] at hb
  refine ⟨hb.1, ?_⟩
  by_cases e : who = 0
  · exact Or.inl e
  · right
    have hb2 := hb.2
    rw [decide_eq_false e, (h.fwho e).1, (h.fwho e).2, h.sub hn hk] at hb2
    by_cases e2 : nx = who
    · exact Or.inl ⟨e, e2⟩
    · refine Or.inr ⟨e, e2, ?_⟩
      rw [decide_eq_false (fun h => e2 h.symm)] at hb2
      simp at hb2
      omega
omit hk in
theorem Al.take (hn : s.now = now) (hk : k ≤ 150) (nx lg : Int) (x0 : 1 ≤ nx) (x1 : nx ≤ 4) (l0 : 1 ≤ lg) (l1 : lg ≤ 16) (hk0 : 0 < k) (ht : tok < k) : Al (takeS s 9 nx lg) gr now nx (now + lg) (tok + 1) k := by
  have a1 := h.n0; have a2 := h.n1; have a3 := h.t0
  have e := h.add lg l0 l1 hk
  refine ⟨h.fgr, h.g1, h.low, h.fnow, h.n0, h.n1, by simp [takeS, up, h.ftok], by omega, by omega, by omega, x1, by omega, by omega, ?_, fun _ => ⟨by simp [takeS, up], by simp [takeS, up, hn, e]⟩, fun e => by omega⟩
  simp [takeS, up]; omega
end
end Go.Proofs.Ytdibbcmfgdgdfaa.Le
