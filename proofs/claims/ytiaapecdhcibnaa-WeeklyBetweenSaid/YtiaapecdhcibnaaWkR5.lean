/- fuseelaw27.WeeklyBetween: all that ring in a span are those of its minutes, one by one; two spans side by side are one. Conditions: none beyond the statement's own. -/
import Derived.Test.YtiaapecdhcibnaaRows
import Derived.Test.YtiaapecdhcibnaaWkZ
import Derived.Test.YtiaapecdhcibnaaWkQ
set_option linter.unusedSimpArgs false
set_option linter.unnecessarySimpa false
namespace Go.Proofs.Wk
open Go Go.Sp Go.Wk
theorem weekBetween_calls (W : World) (A : Option Addr) (l : List Doing) (c1 : Nat) (hin : InW W A (l.flatMap encC)) (hu : ∀ i, i < l.length → 0 ≤ (l.getD i c0).kind) (f a b : Int) (hf : -2147483648 ≤ f ∧ f ≤ 2147483647) (ha : 0 ≤ a ∧ a ≤ 255) (hb : 0 ≤ b ∧ b ≤ 255) :
    Calls Try.prog 5 #[.slice A l.length c1, .int .i32 f, .int .u8 a, .int .u8 b] W fun e W' => e = .returned (.bool true) ∧ RowKit.Below W.heap.size W W' := by
  have hB : InB (Whole W) A (l.flatMap encC) := InB.whole hin
  refine (weekBetween (Whole W) A l l.length c1 rfl hB (fun hp => hB.base (by rw [flat_len encC 5 (fun _ => rfl)]; omega)) hu f a b hf ha hb W ⟨Hp.emp, W⟩ ⟨Owns.whole W, Same.refl W⟩).mono fun e W' he => ?_
  cases e with
  | returned v =>
    have h1 := Owns.fact_out (Owns.star_out he.1)
    refine ⟨by rw [h1.1], he.2.os, he.2.tape, he.2.output, he.2.size, Whole.same h1.2⟩
  | panicked c => exact he.elim
  | outgrown => cases he
end Go.Proofs.Wk
namespace Go.Proofs.Ytiaapecdhcibnaa.weeklyBetween
open Go.ChangeShapes Go.WideShapes Go.ChangeAt Go.RowKit Go.Deep
set_option linter.unusedVariables false
set_option maxRecDepth 100000 in
theorem lifted (os : Os) (started : os.Started) (H : Type) (enc : TypeId × Value → H) :
    ReturnsInHanded {} Try.checked os 5 .any (Rows.weeklyBetweenSpec.pre6 enc Try.prog Try.f5 Rows.weeklyBetweenRow.domain false) (Rows.weeklyBetweenSpec.post enc Try.prog Try.f5 false true false false) := by
  refine returnsInHanded_of_change_sized (C := Try.checked) Wk.own started (by kernel_rfl) Try.func5
    (ChangeSpec.witness6 (enc := enc) (C := Try.checked) false ⟨#[], #[(.slice none 0 0), (.int .i32 0), (.int .u8 0), (.int .u8 0)], []⟩ 8 (by kernel_rfl) (by kernel_rfl) (by kernel_rfl) (by kernel_rfl)) ?_
  intro W base args ds gs before hval0 hW hcnd hsz0 _
  have hval : ∀ (j : Nat) t v, Try.f5.params[j]? = some t → args[j]? = some v → Value.okWide Try.prog W .any base t v := hval0
  have hW' := hW
  obtain ⟨p, q, hA0, hV, rfl, hfz, hnd⟩ := hW
  have hA : DataW.TrodAll enc Try.prog W 0 (fun _ => true) true Try.f5.params.toList args.toList ds p := hA0
  rw [Try.params5] at hA hval
  obtain ⟨v0, vs0, d0, ds0, p0, q0, hargs, rfl, rfl, h0, r0⟩ := trodAll_cons hA
  obtain ⟨v1, vs1, d1, ds1, p1, q1, rfl, rfl, rfl, h1, r1⟩ := trodAll_cons r0
  obtain ⟨v2, vs2, d2, ds2, p2, q2, rfl, rfl, rfl, h2, r2⟩ := trodAll_cons r1
  obtain ⟨v3, vs3, d3, ds3, p3, q3, rfl, rfl, rfl, h3, r3⟩ := trodAll_cons r2
  obtain ⟨rfl, rfl, rfl⟩ := trodAll_nil r3
  obtain rfl : args = #[v0, v1, v2, v3] := by cases args; simp_all
  obtain ⟨rfl, rfl⟩ := trodVars_none hV
  obtain ⟨A, len, cap, rfl⟩ := okWide_slice Try.underlying22 (hval 0 22 v0 rfl rfl)
  have k0 := h0
  have lt0 : ∀ x ∈ p0, x.block < W.heap.size := by obtain ⟨m, hm⟩ := k0; exact DataW.trod_lt m _ _ _ hm
  obtain ⟨fuel, hf⟩ := h0
  obtain ⟨l, rfl, hin, hu⟩ := Wk.doings_of hf
  obtain ⟨b0, rfl, rfl, rfl, w0⟩ := open_int Try.underlying21 (hval 1 21 v1 rfl rfl) h1
  obtain ⟨b1, rfl, rfl, rfl, w1⟩ := open_int Try.underlying5 (hval 2 5 v2 rfl rfl) h2
  obtain ⟨b2, rfl, rfl, rfl, w2⟩ := open_int Try.underlying5 (hval 3 5 v3 rfl rfl) h3
  clear hA0 hval0 hsz0
  refine (Wk.weekBetween_calls W A l cap hin hu b0 b1 b2 (by simp [Lit.wf, IntKind.min, IntKind.max, IntKind.bits, IntKind.signed] at w0; omega) (by simp [Lit.wf, IntKind.min, IntKind.max, IntKind.bits, IntKind.signed] at w1; omega) (by simp [Lit.wf, IntKind.min, IntKind.max, IntKind.bits, IntKind.signed] at w2; omega)).mono fun e W' ⟨he, bel⟩ => ?_
  subst he
  exact ⟨_, rfl, _, _, _, [], _, [], hW', trodAll_mk1 (shut_bool Try.underlying4 _), (trodAll_cons_mk (Below.trod Wk.laidOut (by kernel_rfl) (of_decide_eq_true (by kernel_rfl)) k0 bel lt0) (trodAll_cons_mk (shut_int Try.underlying21 w0) (trodAll_cons_mk (shut_int Try.underlying5 w1) (trodAll_cons_mk (shut_int Try.underlying5 w2) trodAll_mk0)))), rfl, bel.frame _, fun h => by cases h⟩
theorem over : Rows.weeklyBetweenRow.holds Try.pinned (OpenSpec.ofChange Rows.weeklyBetweenSpec) :=
  OpenClaim.holds_of_wide 5 Try.f5 rfl rfl rfl rfl rfl rfl rfl ⟨rfl, rfl, rfl, rfl, rfl⟩ rfl rfl rfl rfl rfl (by kernel_rfl) Try.func5 (by kernel_rfl)
    (of_decide_eq_true (by kernel_rfl)) (by unfold Func.isWrapper; first | (rw [if_pos (by decide +kernel)]; kernel_rfl) | (rw [if_neg (by decide +kernel)]; exact ⟨rfl, rfl⟩))
    (fun os started H enc _ => lifted os started H enc)
end Go.Proofs.Ytiaapecdhcibnaa.weeklyBetween
namespace Go.Proofs.Ytiaapecdhcibnaa
theorem weeklyBetween_holds : Rows.WeeklyBetweenSaid := weeklyBetween.over
#print axioms weeklyBetween_holds
end Go.Proofs.Ytiaapecdhcibnaa
