/- fuseelaw41.LeaseAlone: no thing is held by two. Conditions: none beyond the statement's own. -/
import Derived.Test.YtdibbcmfgdgdfaaRows
import Derived.Test.YtdibbcmfgdgdfaaLk
import Derived.WalkKit
import Derived.ProofKit
import Derived.OpenShut
import Derived.ShutString
import Derived.ChangeOld
import Derived.Below
import Derived.SizedLaws
import Derived.Deep.Slices
import Derived.Deep.Fields
import Derived.ChangeSame
import Derived.Test.YtdibbcmfgdgdfaaWSized
namespace Go.Proofs.Ytdibbcmfgdgdfaa.leaseAlone
open Go.ChangeShapes Go.WideShapes Go.ChangeAt Go.RowKit Go.Deep Go.Proofs.YtdibbcmfgdgdfaaW.PrintWords
set_option linter.unusedVariables false
theorem own : ownKnob Try.prog.godebug = none := by kernel_rfl
theorem laidOut : laidOutB Try.prog = true := by kernel_rfl
theorem cells46 : Try.prog.cellsOf 46 = 1 := by kernel_rfl
set_option maxRecDepth 100000 in
theorem lifted (os : Os) (started : os.Started) (H : Type) (enc : TypeId × Value → H) :
    ReturnsInHanded {} Try.checked os 4 .any (Rows.leaseAloneSpec.pre6 enc Try.prog Try.f4 Rows.leaseAloneRow.domain false) (Rows.leaseAloneSpec.post enc Try.prog Try.f4 false true false false) := by
  refine returnsInHanded_of_change_sized (C := Try.checked) own started (by kernel_rfl) Try.func4
    (ChangeSpec.witness6 (enc := enc) (C := Try.checked) false ⟨#[], #[(.int .u8 0), (.slice none 0 0)], []⟩ 8 (by kernel_rfl) (by kernel_rfl) (by kernel_rfl) (by kernel_rfl)) ?_
  intro W base args ds gs before hval0 hW hcnd hsz0 _
  have hval : ∀ (j : Nat) t v, Try.f4.params[j]? = some t → args[j]? = some v → Value.okWide Try.prog W .any base t v := hval0
  have hW' := hW
  obtain ⟨p, q, hA0, hV, rfl, hfz, hnd⟩ := hW
  have hA : DataW.TrodAll enc Try.prog W 0 (fun _ => true) true Try.f4.params.toList args.toList ds p := hA0
  rw [Try.params4] at hA hval
  obtain ⟨v0, vs0, d0, ds0, p0, q0, hargs, rfl, rfl, h0, r0⟩ := trodAll_cons hA
  obtain ⟨v1, vs1, d1, ds1, p1, q1, rfl, rfl, rfl, h1, r1⟩ := trodAll_cons r0
  obtain ⟨rfl, rfl, rfl⟩ := trodAll_nil r1
  obtain rfl : args = #[v0, v1] := by cases args; simp_all
  obtain ⟨rfl, rfl⟩ := trodVars_none hV
  obtain ⟨gr, rfl, rfl, rfl, w0⟩ := open_int Try.underlying5 (hval 0 5 v0 rfl rfl) h0
  obtain ⟨A, len, cap, rfl⟩ := okWide_slice Try.underlying45 (hval 1 45 v1 rfl rfl)
  have k1 := h1
  have lt1 : ∀ x ∈ p1, x.block < W.heap.size := by obtain ⟨m, hm⟩ := k1; exact DataW.trod_lt m _ _ _ hm
  obtain ⟨fuel, hf⟩ := h1
  clear hA0 hval0 hsz0
  have hz : ∃ z : Nat → Int, (∀ i, i < len → (∃ a, A = some a ∧ a.block < W.heap.size ∧ W.cell? (a.add i) = some (.int .u16 (z i))) ∧ 0 ≤ z i ∧ z i < 65536) ∧ len ≤ 9223372036854775807 := by
    rcases open_ints Try.underlying45 Try.underlying46 cells46 hf with ⟨hcs, hx⟩ | ⟨a, len', cap', zs, hcs, _, hl, hm, hz, hx, hcell, hwz⟩
    · simp [Value.cells] at hcs
      obtain ⟨rfl, rfl, rfl⟩ := hcs
      exact ⟨fun _ => 0, fun i hi => absurd hi (by omega), by omega⟩
    · simp [Value.cells] at hcs
      obtain ⟨rfl, rfl, rfl⟩ := hcs
      simp only [if_true] at hz
      refine ⟨fun i => zs.getD i 0, fun i hi => ⟨⟨a, rfl, ?_, hcell i (by omega)⟩, ?_⟩, by simp only [maxLen] at hm; omega⟩
      · have h9 := World.block_lt_of_cell? W _ (hcell i (by omega))
        unfold Addr.add at h9
        split at h9 <;> exact h9
      · have h9 := hwz (zs.getD i 0) (by rw [List.getD_eq_getElem?_getD, List.getElem?_eq_getElem (by omega)]; exact List.getElem_mem _)
        simp [Lit.wf, IntKind.min, IntKind.max, IntKind.signed, IntKind.bits] at h9
        show 0 ≤ zs.getD i 0 ∧ zs.getD i 0 < 65536
        rw [List.getD_eq_getElem?_getD]
        omega
  obtain ⟨z, hz, hlen⟩ := hz
  have g0 : 0 ≤ gr ∧ gr ≤ 255 := by have h9 := w0; simp [Lit.wf, IntKind.min, IntKind.max, IntKind.signed, IntKind.bits] at h9; omega
  refine (Le.alone_any gr g0.1 g0.2 A len cap z W hz hlen).mono fun e W' ⟨he, bel⟩ => ?_
  subst he
  exact ⟨_, rfl, _, _, _, [], _, [], hW', trodAll_mk1 (shut_bool Try.underlying4 _), (trodAll_cons_mk (shut_int Try.underlying5 w0) (trodAll_cons_mk (Below.trod laidOut (by kernel_rfl) (of_decide_eq_true (by kernel_rfl)) k1 bel lt1) trodAll_mk0)), rfl, bel.frame _, fun h => by cases h⟩
theorem over : Rows.leaseAloneRow.holds Try.pinned (OpenSpec.ofChange Rows.leaseAloneSpec) :=
  OpenClaim.holds_of_wide 4 Try.f4 rfl rfl rfl rfl rfl rfl rfl ⟨rfl, rfl, rfl, rfl, rfl⟩ rfl rfl rfl rfl rfl (by kernel_rfl) Try.func4 (by kernel_rfl)
    (of_decide_eq_true (by kernel_rfl)) (by unfold Func.isWrapper; first | (rw [if_pos (by decide +kernel)]; kernel_rfl) | (rw [if_neg (by decide +kernel)]; exact ⟨rfl, rfl⟩))
    (fun os started H enc _ => lifted os started H enc)
end Go.Proofs.Ytdibbcmfgdgdfaa.leaseAlone
namespace Go.Proofs.Ytdibbcmfgdgdfaa
theorem leaseAlone_holds : Rows.LeaseAloneSaid := leaseAlone.over
#print axioms leaseAlone_holds
end Go.Proofs.Ytdibbcmfgdgdfaa
