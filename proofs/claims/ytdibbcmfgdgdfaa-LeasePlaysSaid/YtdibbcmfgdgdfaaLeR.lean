/- fuseelaw41.LeasePlays: whatever is taken, renewed, and given back, at times within some years, each answer, and what is held till when, is what plain things tell. Conditions: none beyond the statement's own. -/
import Derived.Test.YtdibbcmfgdgdfaaRows
import Derived.Test.YtdibbcmfgdgdfaaLeG
import Derived.Test.YtdibbcmfgdgdfaaLeQ
set_option linter.unusedSimpArgs false
set_option linter.unnecessarySimpa false
namespace Go.Proofs.Le
open Go Go.Sp Go.Le
theorem lease_calls (W : World) (A : Option Addr) (l : List Deed) (c1 : Nat) (hin : InW W A (l.flatMap encA)) (hu : ∀ i, i < l.length → 0 ≤ (l.getD i a0).kind) (g : Int) :
    Calls Try.prog 3 #[.int .i64 g, .slice A l.length c1] W fun e W' => e = .returned (.bool true) ∧ RowKit.Below W.heap.size W W' := by
  have hB : InB (Whole W) A (l.flatMap encA) := InB.whole hin
  refine (leasePlays g (Whole W) A l l.length c1 rfl hB (fun hp => hB.base (by rw [flat_len encA 6 (fun _ => rfl)]; omega)) hu W ⟨Hp.emp, W⟩ ⟨Owns.whole W, Same.refl W⟩).mono fun e W' he => ?_
  cases e with
  | returned v =>
    have h1 := Owns.fact_out (Owns.star_out he.1)
    refine ⟨by rw [h1.1], he.2.os, he.2.tape, he.2.output, he.2.size, Whole.same h1.2⟩
  | panicked c => exact he.elim
  | outgrown => cases he
end Go.Proofs.Le
namespace Go.Proofs.Ytdibbcmfgdgdfaa.leasePlays
open Go.ChangeShapes Go.WideShapes Go.ChangeAt Go.RowKit Go.Deep
set_option linter.unusedVariables false
set_option maxRecDepth 100000 in
theorem lifted (os : Os) (started : os.Started) (H : Type) (enc : TypeId × Value → H) :
    ReturnsInHanded {} Try.checked os 3 .any (Rows.leasePlaysSpec.pre6 enc Try.prog Try.f3 Rows.leasePlaysRow.domain false) (Rows.leasePlaysSpec.post enc Try.prog Try.f3 false true false false) := by
  refine returnsInHanded_of_change_sized (C := Try.checked) Le.own started (by kernel_rfl) Try.func3
    (ChangeSpec.witness6 (enc := enc) (C := Try.checked) false ⟨#[], #[(.int .i64 0), (.slice none 0 0)], []⟩ 8 (by kernel_rfl) (by kernel_rfl) (by kernel_rfl) (by kernel_rfl)) ?_
  intro W base args ds gs before hval0 hW hcnd hsz0 _
  have hval : ∀ (j : Nat) t v, Try.f3.params[j]? = some t → args[j]? = some v → Value.okWide Try.prog W .any base t v := hval0
  have hW' := hW
  obtain ⟨p, q, hA0, hV, rfl, hfz, hnd⟩ := hW
  have hA : DataW.TrodAll enc Try.prog W 0 (fun _ => true) true Try.f3.params.toList args.toList ds p := hA0
  rw [Try.params3] at hA hval
  obtain ⟨v0, vs0, d0, ds0, p0, q0, hargs, rfl, rfl, h0, r0⟩ := trodAll_cons hA
  obtain ⟨v1, vs1, d1, ds1, p1, q1, rfl, rfl, rfl, h1, r1⟩ := trodAll_cons r0
  obtain ⟨rfl, rfl, rfl⟩ := trodAll_nil r1
  obtain rfl : args = #[v0, v1] := by cases args; simp_all
  obtain ⟨rfl, rfl⟩ := trodVars_none hV
  obtain ⟨A, len, cap, rfl⟩ := okWide_slice Try.underlying22 (hval 1 22 v1 rfl rfl)
  have k1 := h1
  have lt1 : ∀ x ∈ p1, x.block < W.heap.size := by obtain ⟨m, hm⟩ := k1; exact DataW.trod_lt m _ _ _ hm
  obtain ⟨fuel, hf⟩ := h1
  obtain ⟨l, rfl, hin, hu⟩ := Le.doings_of hf
  obtain ⟨b0, rfl, rfl, rfl, w0⟩ := open_int Try.underlying3 (hval 0 3 v0 rfl rfl) h0
  clear hA0 hval0 hsz0
  refine (Le.lease_calls W A l cap hin hu b0).mono fun e W' ⟨he, bel⟩ => ?_
  subst he
  exact ⟨_, rfl, _, _, _, [], _, [], hW', trodAll_mk1 (shut_bool Try.underlying4 _), (trodAll_cons_mk (shut_int Try.underlying3 w0) (trodAll_cons_mk (Below.trod Le.laidOut (by kernel_rfl) (of_decide_eq_true (by kernel_rfl)) k1 bel lt1) trodAll_mk0)), rfl, bel.frame _, fun h => by cases h⟩
theorem over : Rows.leasePlaysRow.holds Try.pinned (OpenSpec.ofChange Rows.leasePlaysSpec) :=
  OpenClaim.holds_of_wide 3 Try.f3 rfl rfl rfl rfl rfl rfl rfl ⟨rfl, rfl, rfl, rfl, rfl⟩ rfl rfl rfl rfl rfl (by kernel_rfl) Try.func3 (by kernel_rfl)
    (of_decide_eq_true (by kernel_rfl)) (by unfold Func.isWrapper; first | (rw [if_pos (by decide +kernel)]; kernel_rfl) | (rw [if_neg (by decide +kernel)]; exact ⟨rfl, rfl⟩))
    (fun os started H enc _ => lifted os started H enc)
end Go.Proofs.Ytdibbcmfgdgdfaa.leasePlays
namespace Go.Proofs.Ytdibbcmfgdgdfaa
theorem leasePlays_holds : Rows.LeasePlaysSaid := leasePlays.over
#print axioms leasePlays_holds
end Go.Proofs.Ytdibbcmfgdgdfaa
