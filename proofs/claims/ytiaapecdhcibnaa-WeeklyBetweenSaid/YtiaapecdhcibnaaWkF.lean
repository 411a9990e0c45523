/- Weekly: all in a span; the law's own rows of numbers. -/
import Derived.Test.YtiaapecdhcibnaaWkE
namespace Go.Proofs.Wk
open Go Go.Sp Go.Wk
set_option linter.unusedVariables false
set_option linter.unusedSimpArgs false
set_option linter.unnecessarySimpa false
set_option maxRecDepth 100000
noncomputable def bd13 : Code := (Try.f13.body).getD .skip
noncomputable def kt13_0 : List Item := .code (pick [1, 1, 1] bd13) :: []
noncomputable def kt13_1 : List Item := .inBlock 0 :: kt13_0
noncomputable def kt13_2 : List Item := .inLoop (pick [1, 1, 0, 1, 0, 0] bd13) :: kt13_1
noncomputable def kt13_3 : List Item := .code (pick [1, 1, 0, 1, 0, 0, 1] bd13) :: kt13_2
noncomputable def kt13_4 : List Item := .code (pick [1, 1, 0, 1, 0, 0, 0, 1] bd13) :: kt13_3
noncomputable def pt13_0 : List Item := .code (pick [1, 1, 0, 1, 0, 0, 0, 0] bd13) :: kt13_4
noncomputable def opt13_0 : Array Oper := opsOf (pick [1, 1, 0, 1, 0, 0, 0, 0] bd13)
noncomputable def pt13_1 : List Item := .code (pick [1, 1, 0, 1, 0, 0, 0, 1] bd13) :: kt13_3
noncomputable def kt13_5 : List Item := .code (pick [1, 1, 0, 1, 0, 0, 1, 1] bd13) :: kt13_2
noncomputable def kt13_6 : List Item := .inBlock 1 :: kt13_5
noncomputable def pt13_2 : List Item := .code (pick [1, 1, 0, 1, 0, 0, 1, 0, 0] bd13) :: kt13_6
noncomputable def opt13_2 : Array Oper := opsOf (pick [1, 1, 0, 1, 0, 0, 1, 0, 0] bd13)
noncomputable def kt13_7 : List Item := .code (pick [1, 1, 1, 1] bd13) :: []
noncomputable def pt13_3 : List Item := .code (pick [1, 1, 1, 0] bd13) :: kt13_7
noncomputable def opt13_3 : Array Oper := opsOf (pick [1, 1, 1, 0] bd13)
noncomputable def pt13_4 : List Item := .code (pick [1, 1, 0, 1, 0, 0, 1, 1] bd13) :: kt13_2
noncomputable def opt13_4 : Array Oper := opsOf (pick [1, 1, 0, 1, 0, 0, 1, 1] bd13)
noncomputable def pt13_5 : List Item := .code (pick [1, 1, 1, 1] bd13) :: []
noncomputable def kt13_8 : List Item := .code (pick [1] bd13) :: []
noncomputable def pt13_6 : List Item := .code (pick [0] bd13) :: kt13_8
noncomputable def opt13_6 : Array Oper := opsOf (pick [0] bd13)
noncomputable def kt13_9 : List Item := .code (pick [1, 1] bd13) :: []
noncomputable def pt13_7 : List Item := .code (pick [1, 0] bd13) :: kt13_9
noncomputable def opt13_7 : Array Oper := opsOf (pick [1, 0] bd13)
noncomputable def kt13_10 : List Item := .code (pick [1, 1, 0, 1] bd13) :: kt13_0
noncomputable def pt13_8 : List Item := .code (pick [1, 1, 0, 0] bd13) :: kt13_10
noncomputable def opt13_8 : Array Oper := opsOf (pick [1, 1, 0, 0] bd13)
theorem between_loop (s : Nat) (l : List Alarm) (hg : GoodA l) (f t : Int) (c : Nat) (hc : c ≤ 20160) (hft : t = f + (c : Int) ∨ (c = 0 ∧ t ≤ f)) (hf : -4611686018427387904 ≤ f ∧ f ≤ 4611686018427387904) : ∀ (mm n q : Nat) (So : Option Addr) (co : Nat) (acc : List Int), c - n < mm → n ≤ c → acc = betL l f n → acc.length = q → At ⟨Try.prog, 13, (fun v' => ex fun x : Option Addr × Nat => fact (v' = .slice x.1 (betL l f c).length x.2) :: fact True :: [Grow x.1 x.2 3 1 (betL l f c).length (ints (betL l f c)), SetC s l]), 26, false⟩ pt13_0 [(0, .pointer (some ⟨s, 0, none⟩)), (1, .int .i64 (f + (n : Int))), (2, .int .i64 t), (7, .slice So q co), (8, .int .i64 (n : Int))] [Grow So co 3 1 q (ints acc), SetC s l] := by
 have hlen := hg.len
 intro mm
 induction mm with
 | zero => intro n q So co acc h; omega
 | succ mm ih =>
  intro n q So co acc hm hk he hql
  have hq : q ≤ 64 * n := by rw [← hql, he]; exact betL_len hlen f n
  refine At.region (ops := opt13_0) (m := 7) (k' := kt13_4) (by kernel_rfl) 300 (k'' := pt13_1) (by kernel_rfl) ?_
  refine SOps.pures 3 (i' := 3) (m' := 4) (e' := [(11, .bool (decide ((n : Int) < 20160))), (10, .bool (decide ((n : Int) < 20160))), (9, .int .i64 (n : Int)), (0, .pointer (some ⟨s, 0, none⟩)), (1, .int .i64 (f + (n : Int))), (2, .int .i64 t), (7, .slice So q co), (8, .int .i64 (n : Int))]) (by intro u; kernel_rfl) ?_
  refine SOps.split (fun zq => [(11, .bool zq), (10, .bool zq), (9, .int .i64 (n : Int)), (0, .pointer (some ⟨s, 0, none⟩)), (1, .int .i64 (f + (n : Int))), (2, .int .i64 t), (7, .slice So q co), (8, .int .i64 (n : Int))]) (decide ((n : Int) < 20160)) (fun hx1 => ?_) (fun hx1 => ?_)
  ·have hx1 : (n : Int) < 20160 := by simpa using hx1
   refine SOps.pures 4 (i' := 7) (m' := 0) (e' := [(15, .bool (decide ((f + (n : Int)) < t))), (14, .bool (decide ((f + (n : Int)) < t))), (13, .int .i64 t), (12, .int .i64 (f + (n : Int))), (11, .bool true), (10, .bool true), (9, .int .i64 (n : Int)), (0, .pointer (some ⟨s, 0, none⟩)), (1, .int .i64 (f + (n : Int))), (2, .int .i64 t), (7, .slice So q co), (8, .int .i64 (n : Int))]) (by intro u; kernel_rfl) ?_
   refine SOps.nil (.inl rfl) ?_
   refine At.pick [0, 1, 2, 7, 8, 15] (e' := [(0, .pointer (some ⟨s, 0, none⟩)), (1, .int .i64 (f + (n : Int))), (2, .int .i64 t), (7, .slice So q co), (8, .int .i64 (n : Int)), (15, .bool (decide ((f + (n : Int)) < t)))]) (by kernel_rfl) ?_
   refine At.split (fun zq => [(0, .pointer (some ⟨s, 0, none⟩)), (1, .int .i64 (f + (n : Int))), (2, .int .i64 t), (7, .slice So q co), (8, .int .i64 (n : Int)), (15, .bool zq)]) (decide ((f + (n : Int)) < t)) (fun hx2 => ?_) (fun hx2 => ?_)
   ·have hx2 : (f + (n : Int)) < t := by simpa using hx2
    refine At.cond 300 true (c := .tmp 15) (k1 := pt13_2) (k2 := pt13_3) (by kernel_rfl) (by intro u; kernel_rfl) (fun _ => ?_) (fun h => by cases h)
    refine At.pick [0, 1, 2, 7, 8] (e' := [(0, .pointer (some ⟨s, 0, none⟩)), (1, .int .i64 (f + (n : Int))), (2, .int .i64 t), (7, .slice So q co), (8, .int .i64 (n : Int))]) (by kernel_rfl) ?_
    have hn2 : n < c := by omega
    have hr := ringsL_len l (f + (n : Int))
    refine At.region (ops := opt13_2) (m := 6) (k' := kt13_6) (by kernel_rfl) 300 (k'' := pt13_4) (by kernel_rfl) ?_
    refine SOps.pures 3 (i' := 3) (m' := 3) (e' := [(22, .int .i64 (f + (n : Int))), (21, .pointer (some ⟨s, 0, none⟩)), (20, .slice So q co), (0, .pointer (some ⟨s, 0, none⟩)), (1, .int .i64 (f + (n : Int))), (2, .int .i64 t), (7, .slice So q co), (8, .int .i64 (n : Int))]) (by intro u; kernel_rfl) ?_
    refine SOps.o (Op.callX 23 10 #[.pointer (some ⟨s, 0, none⟩), .int .i64 (f + (n : Int))] _ _ [1] (B := [SetC s l]) (D := [Grow So co 3 1 q (ints acc)]) (by intro u; kernel_rfl) (ringsS s l hg (f + (n : Int))) (by first | exact .inr rfl | exact .inl rfl) (by kernel_rfl) ?_)
    rintro ⟨Sx3, cx4⟩ -
    refine SOps.o (Op.appS 2 0 24 (sz := 1) (bytes := 8) (ty := 32) el_32 (ints (ringsL l (f + (n : Int)))) (ints (acc ++ (ringsL l (f + (n : Int))))) (n := q) (q := (ringsL l (f + (n : Int))).length) (c := cx4) (r := (q + (ringsL l (f + (n : Int))).length)) (by omega) rfl rfl (by intro u; kernel_rfl) (by rw [ints_len] <;> first | omega | (simp only [List.length_cons, List.length_nil]; done) | (simp only [List.length_append, List.length_take, List.length_drop, List.length_cons, List.length_nil, List.length_set]; omega)) SrcOf.all (by simp [ints, oneC]) (by unfold maxLen; omega) (by omega) (by simp [ints]) ?_)
    intro Sx5 cx6
    refine SOps.pures 1 (i' := 6) (m' := 0) (e' := [(7, .slice Sx5 (q + (ringsL l (f + (n : Int))).length) cx6), (24, .slice Sx5 (q + (ringsL l (f + (n : Int))).length) cx6), (23, .slice Sx3 ((ringsL l (f + (n : Int))).length) cx4), (22, .int .i64 (f + (n : Int))), (21, .pointer (some ⟨s, 0, none⟩)), (20, .slice So q co), (0, .pointer (some ⟨s, 0, none⟩)), (1, .int .i64 (f + (n : Int))), (2, .int .i64 t), (7, .slice So q co), (8, .int .i64 (n : Int))]) (by intro u; kernel_rfl) ?_
    refine SOps.nil (.inl rfl) ?_
    refine At.pick [0, 1, 2, 7, 8] (e' := [(0, .pointer (some ⟨s, 0, none⟩)), (1, .int .i64 (f + (n : Int))), (2, .int .i64 t), (7, .slice Sx5 (q + (ringsL l (f + (n : Int))).length) cx6), (8, .int .i64 (n : Int))]) (by kernel_rfl) ?_
    refine At.region (ops := opt13_4) (m := 6) (k' := kt13_2) (by kernel_rfl) 300 (k'' := pt13_0) (by kernel_rfl) ?_
    refine SOps.pures 1 (i' := 1) (m' := 5) (e' := [(16, .int .i64 (n : Int)), (0, .pointer (some ⟨s, 0, none⟩)), (1, .int .i64 (f + (n : Int))), (2, .int .i64 t), (7, .slice Sx5 (q + (ringsL l (f + (n : Int))).length) cx6), (8, .int .i64 (n : Int))]) (by intro u; kernel_rfl) ?_
    refine SOps.v (Val.pe 17 (.int .i64 (IntKind.i64.wrap ((n : Int) + 1))) (.int .i64 ((n + 1 : Nat) : Int)) (by intro u; kernel_rfl) (i64_in (by omega) (by omega) (by omega))) ?_
    refine SOps.pures 1 (i' := 3) (m' := 3) (e' := [(18, .int .i64 (f + (n : Int))), (17, .int .i64 ((n + 1 : Nat) : Int)), (16, .int .i64 (n : Int)), (0, .pointer (some ⟨s, 0, none⟩)), (1, .int .i64 (f + (n : Int))), (2, .int .i64 t), (7, .slice Sx5 (q + (ringsL l (f + (n : Int))).length) cx6), (8, .int .i64 (n : Int))]) (by intro u; kernel_rfl) ?_
    refine SOps.v (Val.pe 19 (.int .i64 (IntKind.i64.wrap ((f + (n : Int)) + 1))) (.int .i64 (f + ((n + 1 : Nat) : Int))) (by intro u; kernel_rfl) (i64_in (by omega) (by omega) (by omega))) ?_
    refine SOps.pures 2 (i' := 6) (m' := 0) (e' := [(1, .int .i64 (f + ((n + 1 : Nat) : Int))), (8, .int .i64 ((n + 1 : Nat) : Int)), (19, .int .i64 (f + ((n + 1 : Nat) : Int))), (18, .int .i64 (f + (n : Int))), (17, .int .i64 ((n + 1 : Nat) : Int)), (16, .int .i64 (n : Int)), (0, .pointer (some ⟨s, 0, none⟩)), (1, .int .i64 (f + (n : Int))), (2, .int .i64 t), (7, .slice Sx5 (q + (ringsL l (f + (n : Int))).length) cx6), (8, .int .i64 (n : Int))]) (by intro u; kernel_rfl) ?_
    refine SOps.nil (.inl rfl) ?_
    refine At.pick [0, 1, 2, 7, 8] (e' := [(0, .pointer (some ⟨s, 0, none⟩)), (1, .int .i64 (f + ((n + 1 : Nat) : Int))), (2, .int .i64 t), (7, .slice Sx5 (q + (ringsL l (f + (n : Int))).length) cx6), (8, .int .i64 ((n + 1 : Nat) : Int))]) (by kernel_rfl) ?_
    refine At.keep [2, 1] (B := [Grow Sx5 cx6 3 1 (q + (ringsL l (f + (n : Int))).length) (ints (acc ++ (ringsL l (f + (n : Int))))), SetC s l]) (D := [Grow Sx3 cx4 3 1 ((ringsL l (f + (n : Int))).length) (ints (ringsL l (f + (n : Int))))]) rfl ?_
    exact ih (n + 1) _ Sx5 cx6 _ (by omega) (by omega) (by rw [he]; exact betL_step l f n) (by simp; omega)
   ·have hx2 : (f + (n : Int)) ≥ t := by simpa using hx2
    refine At.cond 300 false (c := .tmp 15) (k1 := pt13_2) (k2 := pt13_3) (by kernel_rfl) (by intro u; kernel_rfl) (fun h => by cases h) (fun _ => ?_)
    refine At.pick [7] (e' := [(7, .slice So q co)]) (by kernel_rfl) ?_
    refine At.region (ops := opt13_3) (m := 2) (k' := kt13_7) (by kernel_rfl) 300 (k'' := pt13_5) (by kernel_rfl) ?_
    refine SOps.pures 2 (i' := 2) (m' := 0) (e' := [(6, .slice So q co), (25, .slice So q co), (7, .slice So q co)]) (by intro u; kernel_rfl) ?_
    refine SOps.nil (.inl rfl) ?_
    refine At.pick [6] (e' := [(6, .slice So q co)]) (by kernel_rfl) ?_
    refine At.ret1 (fn := Try.f13) (v := .slice So q co) (t := 6) (by kernel_rfl) Try.func13 (by kernel_rfl) (by kernel_rfl) (fun F w ho => ?_)
    obtain rfl : n = c := by omega
    subst hql; subst he
    exact shutX (p := fun _ => True) (So, co) rfl trivial [0, 0] rfl ho
  ·have hx1 : (n : Int) ≥ 20160 := by simpa using hx1
   refine SOps.pures 4 (i' := 7) (m' := 0) (e' := [(15, .bool false), (14, .tuple #[]), (13, .tuple #[]), (12, .tuple #[]), (11, .bool false), (10, .bool false), (9, .int .i64 (n : Int)), (0, .pointer (some ⟨s, 0, none⟩)), (1, .int .i64 (f + (n : Int))), (2, .int .i64 t), (7, .slice So q co), (8, .int .i64 (n : Int))]) (by intro u; kernel_rfl) ?_
   refine SOps.nil (.inl rfl) ?_
   refine At.pick [0, 1, 2, 7, 8, 15] (e' := [(0, .pointer (some ⟨s, 0, none⟩)), (1, .int .i64 (f + (n : Int))), (2, .int .i64 t), (7, .slice So q co), (8, .int .i64 (n : Int)), (15, .bool false)]) (by kernel_rfl) ?_
   refine At.cond 300 false (c := .tmp 15) (k1 := pt13_2) (k2 := pt13_3) (by kernel_rfl) (by intro u; kernel_rfl) (fun h => by cases h) (fun _ => ?_)
   refine At.pick [7] (e' := [(7, .slice So q co)]) (by kernel_rfl) ?_
   refine At.region (ops := opt13_3) (m := 2) (k' := kt13_7) (by kernel_rfl) 300 (k'' := pt13_5) (by kernel_rfl) ?_
   refine SOps.pures 2 (i' := 2) (m' := 0) (e' := [(6, .slice So q co), (25, .slice So q co), (7, .slice So q co)]) (by intro u; kernel_rfl) ?_
   refine SOps.nil (.inl rfl) ?_
   refine At.pick [6] (e' := [(6, .slice So q co)]) (by kernel_rfl) ?_
   refine At.ret1 (fn := Try.f13) (v := .slice So q co) (t := 6) (by kernel_rfl) Try.func13 (by kernel_rfl) (by kernel_rfl) (fun F w ho => ?_)
   obtain rfl : n = c := by omega
   subst hql; subst he
   exact shutX (p := fun _ => True) (So, co) rfl trivial [0, 0] rfl ho
theorem betweenS (s : Nat) (l : List Alarm) (hg : GoodA l) (f t : Int) (c : Nat) (hc : c ≤ 20160) (hft : t = f + (c : Int) ∨ (c = 0 ∧ t ≤ f)) (hf : -4611686018427387904 ≤ f ∧ f ≤ 4611686018427387904) : Ctr Try.prog 13 #[.pointer (some ⟨s, 0, none⟩), .int .i64 f, .int .i64 t] [SetC s l] (fun v' => ex fun x : Option Addr × Nat => fact (v' = .slice x.1 (betL l f c).length x.2) :: fact True :: [Grow x.1 x.2 3 1 (betL l f c).length (ints (betL l f c)), SetC s l]) false := by
 refine spec_of_at (fn := Try.f13) (c := bd13) (args := [.pointer (some ⟨s, 0, none⟩), .int .i64 f, .int .i64 t]) (n := 26) (e := [(0, .pointer (some ⟨s, 0, none⟩)), (1, .int .i64 f), (2, .int .i64 t)]) (k := pt13_6) Try.func13 (by kernel_rfl) (by kernel_rfl) (by kernel_rfl) (by kernel_rfl) 300 (by kernel_rfl) ?_
 have hlen := hg.len
 refine At.region (ops := opt13_6) (m := 1) (k' := kt13_8) (by kernel_rfl) 300 (k'' := pt13_7) (by kernel_rfl) ?_
 refine SOps.pures 1 (i' := 1) (m' := 0) (e' := [(6, .slice none 0 0), (0, .pointer (some ⟨s, 0, none⟩)), (1, .int .i64 f), (2, .int .i64 t)]) (by intro u; kernel_rfl) ?_
 refine SOps.nil (.inl rfl) ?_
 refine At.pick [0, 1, 2] (e' := [(0, .pointer (some ⟨s, 0, none⟩)), (1, .int .i64 f), (2, .int .i64 t)]) (by kernel_rfl) ?_
 refine At.region (ops := opt13_7) (m := 1) (k' := kt13_9) (by kernel_rfl) 300 (k'' := pt13_8) (by kernel_rfl) ?_
 refine SOps.pures 1 (i' := 1) (m' := 0) (e' := [(7, .slice none 0 0), (0, .pointer (some ⟨s, 0, none⟩)), (1, .int .i64 f), (2, .int .i64 t)]) (by intro u; kernel_rfl) ?_
 refine SOps.nil (.inl rfl) ?_
 refine At.pick [0, 1, 2, 7] (e' := [(0, .pointer (some ⟨s, 0, none⟩)), (1, .int .i64 f), (2, .int .i64 t), (7, .slice none 0 0)]) (by kernel_rfl) ?_
 refine At.region (ops := opt13_8) (m := 1) (k' := kt13_10) (by kernel_rfl) 300 (k'' := pt13_0) (by kernel_rfl) ?_
 refine SOps.pures 1 (i' := 1) (m' := 0) (e' := [(8, .int .i64 0), (0, .pointer (some ⟨s, 0, none⟩)), (1, .int .i64 f), (2, .int .i64 t), (7, .slice none 0 0)]) (by intro u; kernel_rfl) ?_
 refine SOps.nil (.inl rfl) ?_
 refine At.pick [0, 1, 2, 7, 8] (e' := [(0, .pointer (some ⟨s, 0, none⟩)), (1, .int .i64 f), (2, .int .i64 t), (7, .slice none 0 0), (8, .int .i64 0)]) (by kernel_rfl) ?_
 refine At.conseq1 (fun F w ho => Grow.nil_ 3 1 ho) ?_
 refine At.keep [0, 0] (B := [Grow none 0 3 1 0 (ints ([])), SetC s l]) (D := []) rfl ?_
 have h0 := between_loop s l hg f t c hc hft hf (c + 1) 0 0 none 0 [] (by omega) (by omega) rfl rfl
 rw [show f + ((0 : Nat) : Int) = f by omega] at h0
 exact h0
noncomputable def bd11 : Code := (Try.f11.body).getD .skip
noncomputable def kt11_0 : List Item := .code (pick [1, 1, 1, 1, 1] bd11) :: []
noncomputable def kt11_1 : List Item := .inBlock 0 :: kt11_0
noncomputable def kt11_2 : List Item := .inLoop (pick [1, 1, 1, 1, 0, 1, 0, 0] bd11) :: kt11_1
noncomputable def kt11_3 : List Item := .code (pick [1, 1, 1, 1, 0, 1, 0, 0, 1, 1, 1] bd11) :: kt11_2
noncomputable def kt11_4 : List Item := .inBlock 1 :: kt11_3
noncomputable def kt11_5 : List Item := .code (pick [1, 1, 1, 1, 0, 1, 0, 0, 1, 1, 0, 0, 1, 1, 1, 1] bd11) :: kt11_4
noncomputable def pt11_0 : List Item := .code (pick [1, 1, 1, 1, 0, 1, 0, 0, 1, 1, 0, 0, 1, 1, 1, 0] bd11) :: kt11_5
noncomputable def opt11_0 : Array Oper := opsOf (pick [1, 1, 1, 1, 0, 1, 0, 0, 1, 1, 0, 0, 1, 1, 1, 0] bd11)
noncomputable def kt11_6 : List Item := .code (pick [1, 1, 1, 1, 0, 1, 0, 0, 1, 1, 0, 0, 1, 1, 1] bd11) :: kt11_4
noncomputable def kt11_7 : List Item := .inBlock 2 :: kt11_6
noncomputable def kt11_8 : List Item := .inLoop (pick [1, 1, 1, 1, 0, 1, 0, 0, 1, 1, 0, 0, 1, 1, 0, 1, 0, 0] bd11) :: kt11_7
noncomputable def kt11_9 : List Item := .code (pick [1, 1, 1, 1, 0, 1, 0, 0, 1, 1, 0, 0, 1, 1, 0, 1, 0, 0, 1] bd11) :: kt11_8
noncomputable def pt11_1 : List Item := .code (pick [1, 1, 1, 1, 0, 1, 0, 0, 1, 1, 0, 0, 1, 1, 0, 1, 0, 0, 0] bd11) :: kt11_9
noncomputable def opt11_1 : Array Oper := opsOf (pick [1, 1, 1, 1, 0, 1, 0, 0, 1, 1, 0, 0, 1, 1, 0, 1, 0, 0, 0] bd11)
noncomputable def kt11_10 : List Item := .code (pick [1, 1, 1, 1, 0, 1, 0, 0, 1, 1, 0, 0, 1, 1, 0, 1, 0, 0, 1, 1] bd11) :: kt11_8
noncomputable def pt11_2 : List Item := .code (pick [1, 1, 1, 1, 0, 1, 0, 0, 1, 1, 0, 0, 1, 1, 0, 1, 0, 0, 1, 0] bd11) :: kt11_10
noncomputable def kt11_11 : List Item := .code (pick [1, 1, 1, 1, 0, 1, 0, 0, 1, 1, 0, 0, 1, 1, 0, 1, 0, 0, 1, 1, 1] bd11) :: kt11_8
noncomputable def kt11_12 : List Item := .inBlock 3 :: kt11_11
noncomputable def pt11_3 : List Item := .code (pick [1, 1, 1, 1, 0, 1, 0, 0, 1, 1, 0, 0, 1, 1, 0, 1, 0, 0, 1, 1, 0, 0] bd11) :: kt11_12
noncomputable def opt11_3 : Array Oper := opsOf (pick [1, 1, 1, 1, 0, 1, 0, 0, 1, 1, 0, 0, 1, 1, 0, 1, 0, 0, 1, 1, 0, 0] bd11)
noncomputable def pt11_4 : List Item := .code (pick [1, 1, 1, 1, 0, 1, 0, 0, 1, 1, 0, 0, 1, 1, 0, 1, 0, 0, 1, 1, 1] bd11) :: kt11_8
noncomputable def opt11_4 : Array Oper := opsOf (pick [1, 1, 1, 1, 0, 1, 0, 0, 1, 1, 0, 0, 1, 1, 0, 1, 0, 0, 1, 1, 1] bd11)
noncomputable def kt11_13 : List Item := .code (pick [1, 1, 1, 1, 0, 1, 0, 0, 1] bd11) :: kt11_2
noncomputable def pt11_5 : List Item := .code (pick [1, 1, 1, 1, 0, 1, 0, 0, 0] bd11) :: kt11_13
noncomputable def opt11_5 : Array Oper := opsOf (pick [1, 1, 1, 1, 0, 1, 0, 0, 0] bd11)
noncomputable def kt11_14 : List Item := .code (pick [1, 1, 1, 1, 0, 1, 0, 0, 1, 1] bd11) :: kt11_2
noncomputable def pt11_6 : List Item := .code (pick [1, 1, 1, 1, 0, 1, 0, 0, 1, 0] bd11) :: kt11_14
noncomputable def kt11_15 : List Item := .code (pick [1, 1, 1, 1, 0, 1, 0, 0, 1, 1, 0, 0, 1] bd11) :: kt11_4
noncomputable def pt11_7 : List Item := .code (pick [1, 1, 1, 1, 0, 1, 0, 0, 1, 1, 0, 0, 0] bd11) :: kt11_15
noncomputable def opt11_7 : Array Oper := opsOf (pick [1, 1, 1, 1, 0, 1, 0, 0, 1, 1, 0, 0, 0] bd11)
noncomputable def kt11_16 : List Item := .code (pick [1, 1, 1, 1, 1, 1] bd11) :: []
noncomputable def pt11_8 : List Item := .code (pick [1, 1, 1, 1, 1, 0] bd11) :: kt11_16
noncomputable def opt11_8 : Array Oper := opsOf (pick [1, 1, 1, 1, 1, 0] bd11)
noncomputable def kt11_17 : List Item := .code (pick [1, 1, 1, 1, 0, 1, 0, 0, 1, 1, 0, 0, 1, 1] bd11) :: kt11_4
noncomputable def pt11_9 : List Item := .code (pick [1, 1, 1, 1, 0, 1, 0, 0, 1, 1, 0, 0, 1, 0] bd11) :: kt11_17
noncomputable def opt11_9 : Array Oper := opsOf (pick [1, 1, 1, 1, 0, 1, 0, 0, 1, 1, 0, 0, 1, 0] bd11)
noncomputable def kt11_18 : List Item := .code (pick [1, 1, 1, 1, 0, 1, 0, 0, 1, 1, 0, 0, 1, 1, 0, 1] bd11) :: kt11_6
noncomputable def pt11_10 : List Item := .code (pick [1, 1, 1, 1, 0, 1, 0, 0, 1, 1, 0, 0, 1, 1, 0, 0] bd11) :: kt11_18
noncomputable def opt11_10 : Array Oper := opsOf (pick [1, 1, 1, 1, 0, 1, 0, 0, 1, 1, 0, 0, 1, 1, 0, 0] bd11)
noncomputable def pt11_11 : List Item := .code (pick [1, 1, 1, 1, 0, 1, 0, 0, 1, 1, 0, 0, 1, 1, 1, 1] bd11) :: kt11_4
noncomputable def pt11_12 : List Item := .code (pick [1, 1, 1, 1, 0, 1, 0, 0, 1, 1, 0, 0, 1, 1, 1, 1, 0] bd11) :: kt11_4
noncomputable def opt11_12 : Array Oper := opsOf (pick [1, 1, 1, 1, 0, 1, 0, 0, 1, 1, 0, 0, 1, 1, 1, 1, 0] bd11)
noncomputable def pt11_13 : List Item := .code (pick [1, 1, 1, 1, 0, 1, 0, 0, 1, 1, 1] bd11) :: kt11_2
noncomputable def opt11_13 : Array Oper := opsOf (pick [1, 1, 1, 1, 0, 1, 0, 0, 1, 1, 1] bd11)
noncomputable def pt11_14 : List Item := .code (pick [1, 1, 1, 1, 1, 1] bd11) :: []
noncomputable def kt11_19 : List Item := .code (pick [1] bd11) :: []
noncomputable def pt11_15 : List Item := .code (pick [0] bd11) :: kt11_19
noncomputable def opt11_15 : Array Oper := opsOf (pick [0] bd11)
noncomputable def kt11_20 : List Item := .code (pick [1, 1] bd11) :: []
noncomputable def pt11_16 : List Item := .code (pick [1, 0] bd11) :: kt11_20
noncomputable def opt11_16 : Array Oper := opsOf (pick [1, 0] bd11)
noncomputable def kt11_21 : List Item := .code (pick [1, 1, 1] bd11) :: []
noncomputable def kt11_22 : List Item := .code (pick [1, 1, 0, 1] bd11) :: kt11_21
noncomputable def pt11_17 : List Item := .code (pick [1, 1, 0, 0] bd11) :: kt11_22
noncomputable def opt11_17 : Array Oper := opsOf (pick [1, 1, 0, 0] bd11)
noncomputable def pt11_18 : List Item := .code (pick [1, 1, 0, 1] bd11) :: kt11_21
noncomputable def pt11_19 : List Item := .code (pick [1, 1, 0, 1, 0] bd11) :: kt11_21
noncomputable def opt11_19 : Array Oper := opsOf (pick [1, 1, 0, 1, 0] bd11)
noncomputable def kt11_23 : List Item := .code (pick [1, 1, 1, 1] bd11) :: []
noncomputable def pt11_20 : List Item := .code (pick [1, 1, 1, 0] bd11) :: kt11_23
noncomputable def opt11_20 : Array Oper := opsOf (pick [1, 1, 1, 0] bd11)
noncomputable def kt11_24 : List Item := .code (pick [1, 1, 1, 1, 0, 1] bd11) :: kt11_0
noncomputable def pt11_21 : List Item := .code (pick [1, 1, 1, 1, 0, 0] bd11) :: kt11_24
noncomputable def opt11_21 : Array Oper := opsOf (pick [1, 1, 1, 1, 0, 0] bd11)
theorem lrings_inner (S : Option Addr) (cap : Nat) (l : List Alarm) (hg : GoodA l) (m : Int) (ba k q : Nat) (So : Option Addr) (co : Nat) (acc : List Int) (hkl : k < l.length) (hK : At ⟨Try.prog, 11, (fun v' => ex fun x : Option Addr × Nat => fact (v' = .slice x.1 (ringsL l m).length x.2) :: fact True :: [Grow x.1 x.2 3 1 (ringsL l m).length (ints (ringsL l m)), Grow S cap 30 4 l.length (l.flatMap encA)]), 53, false⟩ pt11_0 [(5, .int .i64 (m % 10080)), (6, .slice So q co), (8, .pointer (some ⟨ba, 0, none⟩)), (9, .int .i64 ((l.getD k a0).days / 2 ^ (m % 10080 / 1440).toNat)), (16, .slice S l.length cap), (17, .int .i64 (l.length : Int)), (18, .int .i64 (k : Int))] [Cells ba 30 [.int .i64 ((l.getD k a0).id), .int .i64 ((l.getD k a0).minute), .int .i64 ((l.getD k a0).days), .bool ((l.getD k a0).off)], Grow So co 3 1 q (ints acc), Grow S cap 30 4 l.length (l.flatMap encA)]) : ∀ (mm j : Nat), (m % 10080 / 1440).toNat - j < mm → j ≤ (m % 10080 / 1440).toNat → At ⟨Try.prog, 11, (fun v' => ex fun x : Option Addr × Nat => fact (v' = .slice x.1 (ringsL l m).length x.2) :: fact True :: [Grow x.1 x.2 3 1 (ringsL l m).length (ints (ringsL l m)), Grow S cap 30 4 l.length (l.flatMap encA)]), 53, false⟩ pt11_1 [(5, .int .i64 (m % 10080)), (6, .slice So q co), (8, .pointer (some ⟨ba, 0, none⟩)), (9, .int .i64 ((l.getD k a0).days / 2 ^ j)), (16, .slice S l.length cap), (17, .int .i64 (l.length : Int)), (18, .int .i64 (k : Int)), (25, .int .i64 ((m % 10080) / 1440)), (26, .int .i64 (j : Int))] [Cells ba 30 [.int .i64 ((l.getD k a0).id), .int .i64 ((l.getD k a0).minute), .int .i64 ((l.getD k a0).days), .bool ((l.getD k a0).off)], Grow So co 3 1 q (ints acc), Grow S cap 30 4 l.length (l.flatMap encA)] := by
 have hlen := hg.len
 have hd4 := days_ok hg hkl
 intro mm
 induction mm with
 | zero => intro j h; omega
 | succ mm ih =>
  intro j hm hj
  have hp := div_pow (k := j) hd4.2.2.1 hd4.2.2.2
  refine At.region (ops := opt11_1) (m := 1) (k' := kt11_9) (by kernel_rfl) 300 (k'' := pt11_2) (by kernel_rfl) ?_
  refine SOps.pures 1 (i' := 1) (m' := 0) (e' := [(27, .bool (decide ((j : Int) < ((m % 10080) / 1440)))), (5, .int .i64 (m % 10080)), (6, .slice So q co), (8, .pointer (some ⟨ba, 0, none⟩)), (9, .int .i64 ((l.getD k a0).days / 2 ^ j)), (16, .slice S l.length cap), (17, .int .i64 (l.length : Int)), (18, .int .i64 (k : Int)), (25, .int .i64 ((m % 10080) / 1440)), (26, .int .i64 (j : Int))]) (by intro u; kernel_rfl) ?_
  refine SOps.nil (.inl rfl) ?_
  refine At.pick [5, 6, 8, 9, 16, 17, 18, 25, 26, 27] (e' := [(5, .int .i64 (m % 10080)), (6, .slice So q co), (8, .pointer (some ⟨ba, 0, none⟩)), (9, .int .i64 ((l.getD k a0).days / 2 ^ j)), (16, .slice S l.length cap), (17, .int .i64 (l.length : Int)), (18, .int .i64 (k : Int)), (25, .int .i64 ((m % 10080) / 1440)), (26, .int .i64 (j : Int)), (27, .bool (decide ((j : Int) < ((m % 10080) / 1440))))]) (by kernel_rfl) ?_
  refine At.split (fun zq => [(5, .int .i64 (m % 10080)), (6, .slice So q co), (8, .pointer (some ⟨ba, 0, none⟩)), (9, .int .i64 ((l.getD k a0).days / 2 ^ j)), (16, .slice S l.length cap), (17, .int .i64 (l.length : Int)), (18, .int .i64 (k : Int)), (25, .int .i64 ((m % 10080) / 1440)), (26, .int .i64 (j : Int)), (27, .bool zq)]) (decide ((j : Int) < ((m % 10080) / 1440))) (fun hx1 => ?_) (fun hx1 => ?_)
  ·have hx1 : (j : Int) < ((m % 10080) / 1440) := by simpa using hx1
   refine At.cond 300 true (c := .tmp 27) (k1 := pt11_3) (k2 := pt11_0) (by kernel_rfl) (by intro u; kernel_rfl) (fun _ => ?_) (fun h => by cases h)
   refine At.pick [5, 6, 8, 9, 16, 17, 18, 25, 26] (e' := [(5, .int .i64 (m % 10080)), (6, .slice So q co), (8, .pointer (some ⟨ba, 0, none⟩)), (9, .int .i64 ((l.getD k a0).days / 2 ^ j)), (16, .slice S l.length cap), (17, .int .i64 (l.length : Int)), (18, .int .i64 (k : Int)), (25, .int .i64 ((m % 10080) / 1440)), (26, .int .i64 (j : Int))]) (by kernel_rfl) ?_
   refine At.region (ops := opt11_3) (m := 3) (k' := kt11_12) (by kernel_rfl) 300 (k'' := pt11_4) (by kernel_rfl) ?_
   refine SOps.pures 1 (i' := 1) (m' := 2) (e' := [(28, .int .i64 ((l.getD k a0).days / 2 ^ j)), (5, .int .i64 (m % 10080)), (6, .slice So q co), (8, .pointer (some ⟨ba, 0, none⟩)), (9, .int .i64 ((l.getD k a0).days / 2 ^ j)), (16, .slice S l.length cap), (17, .int .i64 (l.length : Int)), (18, .int .i64 (k : Int)), (25, .int .i64 ((m % 10080) / 1440)), (26, .int .i64 (j : Int))]) (by intro u; kernel_rfl) ?_
   refine SOps.v (Val.pv 29 (vN (Op.intDiv .quo .i64 ((l.getD k a0).days / 2 ^ j) 2)) (.int .i64 ((l.getD k a0).days / 2 ^ (j + 1))) (by intro u; kernel_rfl) (half_pow (l.getD k a0).days j ▸ pv_quo (by omega) (by omega) (by omega))) ?_
   refine SOps.pures 1 (i' := 3) (m' := 0) (e' := [(9, .int .i64 ((l.getD k a0).days / 2 ^ (j + 1))), (29, .int .i64 ((l.getD k a0).days / 2 ^ (j + 1))), (28, .int .i64 ((l.getD k a0).days / 2 ^ j)), (5, .int .i64 (m % 10080)), (6, .slice So q co), (8, .pointer (some ⟨ba, 0, none⟩)), (9, .int .i64 ((l.getD k a0).days / 2 ^ j)), (16, .slice S l.length cap), (17, .int .i64 (l.length : Int)), (18, .int .i64 (k : Int)), (25, .int .i64 ((m % 10080) / 1440)), (26, .int .i64 (j : Int))]) (by intro u; kernel_rfl) ?_
   refine SOps.nil (.inl rfl) ?_
   refine At.pick [5, 6, 8, 9, 16, 17, 18, 25, 26] (e' := [(5, .int .i64 (m % 10080)), (6, .slice So q co), (8, .pointer (some ⟨ba, 0, none⟩)), (9, .int .i64 ((l.getD k a0).days / 2 ^ (j + 1))), (16, .slice S l.length cap), (17, .int .i64 (l.length : Int)), (18, .int .i64 (k : Int)), (25, .int .i64 ((m % 10080) / 1440)), (26, .int .i64 (j : Int))]) (by kernel_rfl) ?_
   refine At.region (ops := opt11_4) (m := 2) (k' := kt11_8) (by kernel_rfl) 300 (k'' := pt11_1) (by kernel_rfl) ?_
   refine SOps.v (Val.pe 30 (.int .i64 (IntKind.i64.wrap ((j : Int) + 1))) (.int .i64 ((j + 1 : Nat) : Int)) (by intro u; kernel_rfl) (i64_in (by omega) (by omega) (by omega))) ?_
   refine SOps.pures 1 (i' := 2) (m' := 0) (e' := [(26, .int .i64 ((j + 1 : Nat) : Int)), (30, .int .i64 ((j + 1 : Nat) : Int)), (5, .int .i64 (m % 10080)), (6, .slice So q co), (8, .pointer (some ⟨ba, 0, none⟩)), (9, .int .i64 ((l.getD k a0).days / 2 ^ (j + 1))), (16, .slice S l.length cap), (17, .int .i64 (l.length : Int)), (18, .int .i64 (k : Int)), (25, .int .i64 ((m % 10080) / 1440)), (26, .int .i64 (j : Int))]) (by intro u; kernel_rfl) ?_
   refine SOps.nil (.inl rfl) ?_
   refine At.pick [5, 6, 8, 9, 16, 17, 18, 25, 26] (e' := [(5, .int .i64 (m % 10080)), (6, .slice So q co), (8, .pointer (some ⟨ba, 0, none⟩)), (9, .int .i64 ((l.getD k a0).days / 2 ^ (j + 1))), (16, .slice S l.length cap), (17, .int .i64 (l.length : Int)), (18, .int .i64 (k : Int)), (25, .int .i64 ((m % 10080) / 1440)), (26, .int .i64 ((j + 1 : Nat) : Int))]) (by kernel_rfl) ?_
   refine At.keep [0, 0, 0] (B := [Cells ba 30 [.int .i64 ((l.getD k a0).id), .int .i64 ((l.getD k a0).minute), .int .i64 ((l.getD k a0).days), .bool ((l.getD k a0).off)], Grow So co 3 1 q (ints acc), Grow S cap 30 4 l.length (l.flatMap encA)]) (D := []) rfl ?_
   exact ih (j + 1) (by omega) (by omega)
  ·have hx1 : (j : Int) ≥ ((m % 10080) / 1440) := by simpa using hx1
   refine At.cond 300 false (c := .tmp 27) (k1 := pt11_3) (k2 := pt11_0) (by kernel_rfl) (by intro u; kernel_rfl) (fun h => by cases h) (fun _ => ?_)
   refine At.pick [5, 6, 8, 9, 16, 17, 18] (e' := [(5, .int .i64 (m % 10080)), (6, .slice So q co), (8, .pointer (some ⟨ba, 0, none⟩)), (9, .int .i64 ((l.getD k a0).days / 2 ^ j)), (16, .slice S l.length cap), (17, .int .i64 (l.length : Int)), (18, .int .i64 (k : Int))]) (by kernel_rfl) ?_
   refine At.keep [0, 0, 0] (B := [Cells ba 30 [.int .i64 ((l.getD k a0).id), .int .i64 ((l.getD k a0).minute), .int .i64 ((l.getD k a0).days), .bool ((l.getD k a0).off)], Grow So co 3 1 q (ints acc), Grow S cap 30 4 l.length (l.flatMap encA)]) (D := []) rfl ?_
   obtain rfl : j = (m % 10080 / 1440).toNat := by omega
   exact hK
theorem lrings_outer (S : Option Addr) (cap : Nat) (l : List Alarm) (hg : GoodA l) (m : Int) : ∀ (mm k q : Nat) (So : Option Addr) (co : Nat) (acc : List Int), l.length - k < mm → k ≤ l.length → acc = ringsL (l.take k) m → acc.length = q → At ⟨Try.prog, 11, (fun v' => ex fun x : Option Addr × Nat => fact (v' = .slice x.1 (ringsL l m).length x.2) :: fact True :: [Grow x.1 x.2 3 1 (ringsL l m).length (ints (ringsL l m)), Grow S cap 30 4 l.length (l.flatMap encA)]), 53, false⟩ pt11_5 [(5, .int .i64 (m % 10080)), (6, .slice So q co), (16, .slice S l.length cap), (17, .int .i64 (l.length : Int)), (18, .int .i64 (k : Int))] [Grow So co 3 1 q (ints acc), Grow S cap 30 4 l.length (l.flatMap encA)] := by
 have hlen := hg.len
 intro mm
 induction mm with
 | zero => intro k q So co acc h; omega
 | succ mm ih =>
  intro k q So co acc hm hk he hql
  have hq : q ≤ k := by rw [← hql, he]; exact ringsL_take l m k
  refine At.region (ops := opt11_5) (m := 1) (k' := kt11_13) (by kernel_rfl) 300 (k'' := pt11_6) (by kernel_rfl) ?_
  refine SOps.pures 1 (i' := 1) (m' := 0) (e' := [(19, .bool (decide ((k : Int) < (l.length : Int)))), (5, .int .i64 (m % 10080)), (6, .slice So q co), (16, .slice S l.length cap), (17, .int .i64 (l.length : Int)), (18, .int .i64 (k : Int))]) (by intro u; kernel_rfl) ?_
  refine SOps.nil (.inl rfl) ?_
  refine At.pick [5, 6, 16, 17, 18, 19] (e' := [(5, .int .i64 (m % 10080)), (6, .slice So q co), (16, .slice S l.length cap), (17, .int .i64 (l.length : Int)), (18, .int .i64 (k : Int)), (19, .bool (decide ((k : Int) < (l.length : Int))))]) (by kernel_rfl) ?_
  refine At.split (fun zq => [(5, .int .i64 (m % 10080)), (6, .slice So q co), (16, .slice S l.length cap), (17, .int .i64 (l.length : Int)), (18, .int .i64 (k : Int)), (19, .bool zq)]) (decide ((k : Int) < (l.length : Int))) (fun hx1 => ?_) (fun hx1 => ?_)
  ·have hx1 : (k : Int) < (l.length : Int) := by simpa using hx1
   refine At.cond 300 true (c := .tmp 19) (k1 := pt11_7) (k2 := pt11_8) (by kernel_rfl) (by intro u; kernel_rfl) (fun _ => ?_) (fun h => by cases h)
   refine At.pick [5, 6, 16, 17, 18] (e' := [(5, .int .i64 (m % 10080)), (6, .slice So q co), (16, .slice S l.length cap), (17, .int .i64 (l.length : Int)), (18, .int .i64 (k : Int))]) (by kernel_rfl) ?_
   refine At.region (ops := opt11_7) (m := 4) (k' := kt11_15) (by kernel_rfl) 300 (k'' := pt11_9) (by kernel_rfl) ?_
   refine SOps.learn (fun F w ho => Grow.some (j := 1) ho rfl) (fun hS => ?_)
   refine SOps.v (Val.pv 20 (vN (Instr.indexAt 25 (.slice S l.length cap) (.int .i64 (k : Int)))) (.pointer (some ⟨(blk S), k * 4, none⟩)) (by intro u; kernel_rfl) (pv_indexO (el := 30) (sz := 4) (by kernel_rfl) (by kernel_rfl) (by omega) (by omega) (hS.1 (by omega)) (by omega))) ?_
   refine SOps.v (Val.ldN 1 21 30 (blk S) (k * 4) 4 [.int .i64 ((l.getD k a0).id), .int .i64 ((l.getD k a0).minute), .int .i64 ((l.getD k a0).days), .bool ((l.getD k a0).off)] rfl (by intro u; kernel_rfl) (by kernel_rfl) (by kernel_rfl) rfl ⟨(Rd.grow (flat_get encA 4 (fun _ => rfl) l k 0 (l.getD k a0) _ (getD_some (by omega)) rfl)), (Rd.grow (flat_get encA 4 (fun _ => rfl) l k 1 (l.getD k a0) _ (getD_some (by omega)) rfl)), (Rd.grow (flat_get encA 4 (fun _ => rfl) l k 2 (l.getD k a0) _ (getD_some (by omega)) rfl)), (Rd.grow (flat_get encA 4 (fun _ => rfl) l k 3 (l.getD k a0) _ (getD_some (by omega)) rfl)), trivial⟩) ?_
   refine SOps.o (Op.new 8 30 [.int .i64 0, .int .i64 0, .int .i64 0, .bool false] (fun b => .pointer (some ⟨b, 0, none⟩)) (by intro u b; kernel_rfl) ?_)
   intro bx2
   refine SOps.o (Op.st 0 30 bx2 0 (.agg #[.int .i64 ((l.getD k a0).id), .int .i64 ((l.getD k a0).minute), .int .i64 ((l.getD k a0).days), .bool ((l.getD k a0).off)]) [.int .i64 ((l.getD k a0).id), .int .i64 ((l.getD k a0).minute), .int .i64 ((l.getD k a0).days), .bool ((l.getD k a0).off)] 4 (B' := Cells bx2 30 [.int .i64 ((l.getD k a0).id), .int .i64 ((l.getD k a0).minute), .int .i64 ((l.getD k a0).days), .bool ((l.getD k a0).off)]) (A' := [Cells bx2 30 [.int .i64 ((l.getD k a0).id), .int .i64 ((l.getD k a0).minute), .int .i64 ((l.getD k a0).days), .bool ((l.getD k a0).off)], Grow So co 3 1 q (ints acc), Grow S cap 30 4 l.length (l.flatMap encA)]) rfl (by intro u; kernel_rfl) rfl (by kernel_rfl) rfl rfl (Wr.cells rfl rfl) rfl ?_)
   refine SOps.nil (.inl rfl) ?_
   refine At.pick [5, 6, 8, 16, 17, 18] (e' := [(5, .int .i64 (m % 10080)), (6, .slice So q co), (8, .pointer (some ⟨bx2, 0, none⟩)), (16, .slice S l.length cap), (17, .int .i64 (l.length : Int)), (18, .int .i64 (k : Int))]) (by kernel_rfl) ?_
   refine At.region (ops := opt11_9) (m := 3) (k' := kt11_17) (by kernel_rfl) 300 (k'' := pt11_10) (by kernel_rfl) ?_
   refine SOps.pures 1 (i' := 1) (m' := 2) (e' := [(22, .pointer (some ⟨bx2, 2, none⟩)), (5, .int .i64 (m % 10080)), (6, .slice So q co), (8, .pointer (some ⟨bx2, 0, none⟩)), (16, .slice S l.length cap), (17, .int .i64 (l.length : Int)), (18, .int .i64 (k : Int))]) (by intro u; kernel_rfl) ?_
   refine SOps.v (Val.ld1 0 23 3 bx2 2 (.int .i64 ((l.getD k a0).days)) rfl (by intro u; kernel_rfl) (by kernel_rfl) (Rd.cells rfl)) ?_
   refine SOps.pures 1 (i' := 3) (m' := 0) (e' := [(9, .int .i64 ((l.getD k a0).days)), (23, .int .i64 ((l.getD k a0).days)), (22, .pointer (some ⟨bx2, 2, none⟩)), (5, .int .i64 (m % 10080)), (6, .slice So q co), (8, .pointer (some ⟨bx2, 0, none⟩)), (16, .slice S l.length cap), (17, .int .i64 (l.length : Int)), (18, .int .i64 (k : Int))]) (by intro u; kernel_rfl) ?_
   refine SOps.nil (.inl rfl) ?_
   refine At.pick [5, 6, 8, 9, 16, 17, 18] (e' := [(5, .int .i64 (m % 10080)), (6, .slice So q co), (8, .pointer (some ⟨bx2, 0, none⟩)), (9, .int .i64 ((l.getD k a0).days)), (16, .slice S l.length cap), (17, .int .i64 (l.length : Int)), (18, .int .i64 (k : Int))]) (by kernel_rfl) ?_
   refine At.region (ops := opt11_10) (m := 3) (k' := kt11_18) (by kernel_rfl) 300 (k'' := pt11_1) (by kernel_rfl) ?_
   refine SOps.pures 1 (i' := 1) (m' := 2) (e' := [(24, .int .i64 (m % 10080)), (5, .int .i64 (m % 10080)), (6, .slice So q co), (8, .pointer (some ⟨bx2, 0, none⟩)), (9, .int .i64 ((l.getD k a0).days)), (16, .slice S l.length cap), (17, .int .i64 (l.length : Int)), (18, .int .i64 (k : Int))]) (by intro u; kernel_rfl) ?_
   refine SOps.v (Val.pv 25 (vN (Op.intDiv .quo .i64 (m % 10080) 1440)) (.int .i64 ((m % 10080) / 1440)) (by intro u; kernel_rfl) (pv_quo (by omega) (by omega) (by omega))) ?_
   refine SOps.pures 1 (i' := 3) (m' := 0) (e' := [(26, .int .i64 0), (25, .int .i64 ((m % 10080) / 1440)), (24, .int .i64 (m % 10080)), (5, .int .i64 (m % 10080)), (6, .slice So q co), (8, .pointer (some ⟨bx2, 0, none⟩)), (9, .int .i64 ((l.getD k a0).days)), (16, .slice S l.length cap), (17, .int .i64 (l.length : Int)), (18, .int .i64 (k : Int))]) (by intro u; kernel_rfl) ?_
   refine SOps.nil (.inl rfl) ?_
   refine At.pick [5, 6, 8, 9, 16, 17, 18, 25, 26] (e' := [(5, .int .i64 (m % 10080)), (6, .slice So q co), (8, .pointer (some ⟨bx2, 0, none⟩)), (9, .int .i64 ((l.getD k a0).days)), (16, .slice S l.length cap), (17, .int .i64 (l.length : Int)), (18, .int .i64 (k : Int)), (25, .int .i64 ((m % 10080) / 1440)), (26, .int .i64 0)]) (by kernel_rfl) ?_
   refine At.keep [0, 0, 0] (B := [Cells bx2 30 [.int .i64 ((l.getD k a0).id), .int .i64 ((l.getD k a0).minute), .int .i64 ((l.getD k a0).days), .bool ((l.getD k a0).off)], Grow So co 3 1 q (ints acc), Grow S cap 30 4 l.length (l.flatMap encA)]) (D := []) rfl ?_
   have hK : At ⟨Try.prog, 11, (fun v' => ex fun x : Option Addr × Nat => fact (v' = .slice x.1 (ringsL l m).length x.2) :: fact True :: [Grow x.1 x.2 3 1 (ringsL l m).length (ints (ringsL l m)), Grow S cap 30 4 l.length (l.flatMap encA)]), 53, false⟩ pt11_0 [(5, .int .i64 (m % 10080)), (6, .slice So q co), (8, .pointer (some ⟨bx2, 0, none⟩)), (9, .int .i64 ((l.getD k a0).days / 2 ^ (m % 10080 / 1440).toNat)), (16, .slice S l.length cap), (17, .int .i64 (l.length : Int)), (18, .int .i64 (k : Int))] [Cells bx2 30 [.int .i64 ((l.getD k a0).id), .int .i64 ((l.getD k a0).minute), .int .i64 ((l.getD k a0).days), .bool ((l.getD k a0).off)], Grow So co 3 1 q (ints acc), Grow S cap 30 4 l.length (l.flatMap encA)] := by
    have hd4 := days_ok hg (k := k) (by omega)
    have hp := div_pow (k := (m % 10080 / 1440).toNat) hd4.2.2.1 hd4.2.2.2
    refine At.region (ops := opt11_0) (m := 15) (k' := kt11_5) (by kernel_rfl) 300 (k'' := pt11_11) (by kernel_rfl) ?_
    refine SOps.pures 1 (i' := 1) (m' := 14) (e' := [(31, .pointer (some ⟨bx2, 3, none⟩)), (5, .int .i64 (m % 10080)), (6, .slice So q co), (8, .pointer (some ⟨bx2, 0, none⟩)), (9, .int .i64 ((l.getD k a0).days / 2 ^ (m % 10080 / 1440).toNat)), (16, .slice S l.length cap), (17, .int .i64 (l.length : Int)), (18, .int .i64 (k : Int))]) (by intro u; kernel_rfl) ?_
    refine SOps.v (Val.ld1 0 32 4 bx2 3 (.bool ((l.getD k a0).off)) rfl (by intro u; kernel_rfl) (by kernel_rfl) (Rd.cells rfl)) ?_
    refine SOps.pures 2 (i' := 4) (m' := 11) (e' := [(34, .bool (!((l.getD k a0).off))), (33, .bool (!((l.getD k a0).off))), (32, .bool ((l.getD k a0).off)), (31, .pointer (some ⟨bx2, 3, none⟩)), (5, .int .i64 (m % 10080)), (6, .slice So q co), (8, .pointer (some ⟨bx2, 0, none⟩)), (9, .int .i64 ((l.getD k a0).days / 2 ^ (m % 10080 / 1440).toNat)), (16, .slice S l.length cap), (17, .int .i64 (l.length : Int)), (18, .int .i64 (k : Int))]) (by intro u; kernel_rfl) ?_
    refine SOps.split (fun zq => [(34, .bool zq), (33, .bool zq), (32, .bool ((l.getD k a0).off)), (31, .pointer (some ⟨bx2, 3, none⟩)), (5, .int .i64 (m % 10080)), (6, .slice So q co), (8, .pointer (some ⟨bx2, 0, none⟩)), (9, .int .i64 ((l.getD k a0).days / 2 ^ (m % 10080 / 1440).toNat)), (16, .slice S l.length cap), (17, .int .i64 (l.length : Int)), (18, .int .i64 (k : Int))]) (!((l.getD k a0).off)) (fun hx13 => ?_) (fun hx13 => ?_)
    ·refine SOps.pures 1 (i' := 5) (m' := 10) (e' := [(35, .int .i64 ((l.getD k a0).days / 2 ^ (m % 10080 / 1440).toNat)), (34, .bool true), (33, .bool true), (32, .bool ((l.getD k a0).off)), (31, .pointer (some ⟨bx2, 3, none⟩)), (5, .int .i64 (m % 10080)), (6, .slice So q co), (8, .pointer (some ⟨bx2, 0, none⟩)), (9, .int .i64 ((l.getD k a0).days / 2 ^ (m % 10080 / 1440).toNat)), (16, .slice S l.length cap), (17, .int .i64 (l.length : Int)), (18, .int .i64 (k : Int))]) (by intro u; kernel_rfl) ?_
     refine SOps.v (Val.pv 36 (vN (Op.intDiv .rem .i64 ((l.getD k a0).days / 2 ^ (m % 10080 / 1440).toNat) 2)) (.int .i64 (((l.getD k a0).days / 2 ^ (m % 10080 / 1440).toNat) % 2)) (by intro u; kernel_rfl) (pv_rem (by omega) (by omega))) ?_
     refine SOps.pures 3 (i' := 9) (m' := 6) (e' := [(39, .bool ((((l.getD k a0).days / 2 ^ (m % 10080 / 1440).toNat) % 2) == 1)), (38, .bool ((((l.getD k a0).days / 2 ^ (m % 10080 / 1440).toNat) % 2) == 1)), (37, .bool ((((l.getD k a0).days / 2 ^ (m % 10080 / 1440).toNat) % 2) == 1)), (36, .int .i64 (((l.getD k a0).days / 2 ^ (m % 10080 / 1440).toNat) % 2)), (35, .int .i64 ((l.getD k a0).days / 2 ^ (m % 10080 / 1440).toNat)), (34, .bool true), (33, .bool true), (32, .bool ((l.getD k a0).off)), (31, .pointer (some ⟨bx2, 3, none⟩)), (5, .int .i64 (m % 10080)), (6, .slice So q co), (8, .pointer (some ⟨bx2, 0, none⟩)), (9, .int .i64 ((l.getD k a0).days / 2 ^ (m % 10080 / 1440).toNat)), (16, .slice S l.length cap), (17, .int .i64 (l.length : Int)), (18, .int .i64 (k : Int))]) (by intro u; kernel_rfl) ?_
     refine SOps.split (fun zq => [(39, .bool zq), (38, .bool zq), (37, .bool zq), (36, .int .i64 (((l.getD k a0).days / 2 ^ (m % 10080 / 1440).toNat) % 2)), (35, .int .i64 ((l.getD k a0).days / 2 ^ (m % 10080 / 1440).toNat)), (34, .bool true), (33, .bool true), (32, .bool ((l.getD k a0).off)), (31, .pointer (some ⟨bx2, 3, none⟩)), (5, .int .i64 (m % 10080)), (6, .slice So q co), (8, .pointer (some ⟨bx2, 0, none⟩)), (9, .int .i64 ((l.getD k a0).days / 2 ^ (m % 10080 / 1440).toNat)), (16, .slice S l.length cap), (17, .int .i64 (l.length : Int)), (18, .int .i64 (k : Int))]) (((((l.getD k a0).days / 2 ^ (m % 10080 / 1440).toNat) % 2) == 1)) (fun hx14 => ?_) (fun hx14 => ?_)
     ·have hx14 : (((l.getD k a0).days / 2 ^ (m % 10080 / 1440).toNat) % 2) = 1 := by simpa using hx14
      refine SOps.pures 1 (i' := 10) (m' := 5) (e' := [(40, .int .i64 (m % 10080)), (39, .bool true), (38, .bool true), (37, .bool true), (36, .int .i64 (((l.getD k a0).days / 2 ^ (m % 10080 / 1440).toNat) % 2)), (35, .int .i64 ((l.getD k a0).days / 2 ^ (m % 10080 / 1440).toNat)), (34, .bool true), (33, .bool true), (32, .bool ((l.getD k a0).off)), (31, .pointer (some ⟨bx2, 3, none⟩)), (5, .int .i64 (m % 10080)), (6, .slice So q co), (8, .pointer (some ⟨bx2, 0, none⟩)), (9, .int .i64 ((l.getD k a0).days / 2 ^ (m % 10080 / 1440).toNat)), (16, .slice S l.length cap), (17, .int .i64 (l.length : Int)), (18, .int .i64 (k : Int))]) (by intro u; kernel_rfl) ?_
      refine SOps.v (Val.pv 41 (vN (Op.intDiv .rem .i64 (m % 10080) 1440)) (.int .i64 ((m % 10080) % 1440)) (by intro u; kernel_rfl) (pv_rem (by omega) (by omega))) ?_
      refine SOps.pures 1 (i' := 12) (m' := 3) (e' := [(42, .pointer (some ⟨bx2, 1, none⟩)), (41, .int .i64 ((m % 10080) % 1440)), (40, .int .i64 (m % 10080)), (39, .bool true), (38, .bool true), (37, .bool true), (36, .int .i64 (((l.getD k a0).days / 2 ^ (m % 10080 / 1440).toNat) % 2)), (35, .int .i64 ((l.getD k a0).days / 2 ^ (m % 10080 / 1440).toNat)), (34, .bool true), (33, .bool true), (32, .bool ((l.getD k a0).off)), (31, .pointer (some ⟨bx2, 3, none⟩)), (5, .int .i64 (m % 10080)), (6, .slice So q co), (8, .pointer (some ⟨bx2, 0, none⟩)), (9, .int .i64 ((l.getD k a0).days / 2 ^ (m % 10080 / 1440).toNat)), (16, .slice S l.length cap), (17, .int .i64 (l.length : Int)), (18, .int .i64 (k : Int))]) (by intro u; kernel_rfl) ?_
      refine SOps.v (Val.ld1 0 43 3 bx2 1 (.int .i64 ((l.getD k a0).minute)) rfl (by intro u; kernel_rfl) (by kernel_rfl) (Rd.cells rfl)) ?_
      refine SOps.pures 2 (i' := 15) (m' := 0) (e' := [(45, .bool (((m % 10080) % 1440) == ((l.getD k a0).minute))), (44, .bool (((m % 10080) % 1440) == ((l.getD k a0).minute))), (43, .int .i64 ((l.getD k a0).minute)), (42, .pointer (some ⟨bx2, 1, none⟩)), (41, .int .i64 ((m % 10080) % 1440)), (40, .int .i64 (m % 10080)), (39, .bool true), (38, .bool true), (37, .bool true), (36, .int .i64 (((l.getD k a0).days / 2 ^ (m % 10080 / 1440).toNat) % 2)), (35, .int .i64 ((l.getD k a0).days / 2 ^ (m % 10080 / 1440).toNat)), (34, .bool true), (33, .bool true), (32, .bool ((l.getD k a0).off)), (31, .pointer (some ⟨bx2, 3, none⟩)), (5, .int .i64 (m % 10080)), (6, .slice So q co), (8, .pointer (some ⟨bx2, 0, none⟩)), (9, .int .i64 ((l.getD k a0).days / 2 ^ (m % 10080 / 1440).toNat)), (16, .slice S l.length cap), (17, .int .i64 (l.length : Int)), (18, .int .i64 (k : Int))]) (by intro u; kernel_rfl) ?_
      refine SOps.nil (.inl rfl) ?_
      refine At.pick [5, 6, 8, 16, 17, 18, 45] (e' := [(5, .int .i64 (m % 10080)), (6, .slice So q co), (8, .pointer (some ⟨bx2, 0, none⟩)), (16, .slice S l.length cap), (17, .int .i64 (l.length : Int)), (18, .int .i64 (k : Int)), (45, .bool (((m % 10080) % 1440) == ((l.getD k a0).minute)))]) (by kernel_rfl) ?_
      refine At.split (fun zq => [(5, .int .i64 (m % 10080)), (6, .slice So q co), (8, .pointer (some ⟨bx2, 0, none⟩)), (16, .slice S l.length cap), (17, .int .i64 (l.length : Int)), (18, .int .i64 (k : Int)), (45, .bool zq)]) ((((m % 10080) % 1440) == ((l.getD k a0).minute))) (fun hx15 => ?_) (fun hx15 => ?_)
      ·have hx15 : ((m % 10080) % 1440) = (l.getD k a0).minute := by simpa using hx15
       refine At.cond 300 true (c := .tmp 45) (k1 := pt11_12) (k2 := pt11_13) (by kernel_rfl) (by intro u; kernel_rfl) (fun _ => ?_) (fun h => by cases h)
       refine At.pick [5, 6, 8, 16, 17, 18] (e' := [(5, .int .i64 (m % 10080)), (6, .slice So q co), (8, .pointer (some ⟨bx2, 0, none⟩)), (16, .slice S l.length cap), (17, .int .i64 (l.length : Int)), (18, .int .i64 (k : Int))]) (by kernel_rfl) ?_
       refine At.region (ops := opt11_12) (m := 6) (k' := kt11_4) (by kernel_rfl) 300 (k'' := pt11_13) (by kernel_rfl) ?_
       refine SOps.pures 2 (i' := 2) (m' := 4) (e' := [(47, .pointer (some ⟨bx2, 0, none⟩)), (46, .slice So q co), (5, .int .i64 (m % 10080)), (6, .slice So q co), (8, .pointer (some ⟨bx2, 0, none⟩)), (16, .slice S l.length cap), (17, .int .i64 (l.length : Int)), (18, .int .i64 (k : Int))]) (by intro u; kernel_rfl) ?_
       refine SOps.v (Val.ld1 0 48 3 bx2 0 (.int .i64 ((l.getD k a0).id)) rfl (by intro u; kernel_rfl) (by kernel_rfl) (Rd.cells rfl)) ?_
       refine SOps.o (Op.new 49 3 [.int .i64 ((l.getD k a0).id)] (fun b => .slice (some ⟨b, 0, none⟩) 1 1) (by intro u b; kernel_rfl) ?_)
       intro bx16
       refine SOps.o (Op.appS 2 0 50 (sz := 1) (bytes := 8) (ty := 32) el_32 (ints ([(l.getD k a0).id])) (ints (acc ++ [(l.getD k a0).id])) (n := q) (q := 1) (c := 1) (r := (q + 1)) (by omega) rfl rfl (by intro u; kernel_rfl) (by rw [ints_len] <;> first | omega | (simp only [List.length_cons, List.length_nil]; done) | (simp only [List.length_append, List.length_take, List.length_drop, List.length_cons, List.length_nil, List.length_set]; omega)) SrcOf.cells (by simp [ints, oneC]) (by unfold maxLen; omega) (by omega) (by simp [ints]) ?_)
       intro Sx17 cx18
       refine SOps.pures 1 (i' := 6) (m' := 0) (e' := [(6, .slice Sx17 (q + 1) cx18), (50, .slice Sx17 (q + 1) cx18), (49, .slice (some ⟨bx16, 0, none⟩) 1 1), (48, .int .i64 ((l.getD k a0).id)), (47, .pointer (some ⟨bx2, 0, none⟩)), (46, .slice So q co), (5, .int .i64 (m % 10080)), (6, .slice So q co), (8, .pointer (some ⟨bx2, 0, none⟩)), (16, .slice S l.length cap), (17, .int .i64 (l.length : Int)), (18, .int .i64 (k : Int))]) (by intro u; kernel_rfl) ?_
       refine SOps.nil (.inl rfl) ?_
       refine At.pick [5, 6, 16, 17, 18] (e' := [(5, .int .i64 (m % 10080)), (6, .slice Sx17 (q + 1) cx18), (16, .slice S l.length cap), (17, .int .i64 (l.length : Int)), (18, .int .i64 (k : Int))]) (by kernel_rfl) ?_
       refine At.region (ops := opt11_13) (m := 2) (k' := kt11_2) (by kernel_rfl) 300 (k'' := pt11_5) (by kernel_rfl) ?_
       refine SOps.v (Val.pe 51 (.int .i64 (IntKind.i64.wrap ((k : Int) + 1))) (.int .i64 ((k + 1 : Nat) : Int)) (by intro u; kernel_rfl) (i64_in (by omega) (by omega) (by omega))) ?_
       refine SOps.pures 1 (i' := 2) (m' := 0) (e' := [(18, .int .i64 ((k + 1 : Nat) : Int)), (51, .int .i64 ((k + 1 : Nat) : Int)), (5, .int .i64 (m % 10080)), (6, .slice Sx17 (q + 1) cx18), (16, .slice S l.length cap), (17, .int .i64 (l.length : Int)), (18, .int .i64 (k : Int))]) (by intro u; kernel_rfl) ?_
       refine SOps.nil (.inl rfl) ?_
       refine At.pick [5, 6, 16, 17, 18] (e' := [(5, .int .i64 (m % 10080)), (6, .slice Sx17 (q + 1) cx18), (16, .slice S l.length cap), (17, .int .i64 (l.length : Int)), (18, .int .i64 ((k + 1 : Nat) : Int))]) (by kernel_rfl) ?_
       refine At.keep [2, 2] (B := [Grow Sx17 cx18 3 1 (q + 1) (ints (acc ++ [(l.getD k a0).id])), Grow S cap 30 4 l.length (l.flatMap encA)]) (D := [Cells bx16 3 [.int .i64 ((l.getD k a0).id)], Cells bx2 30 [.int .i64 ((l.getD k a0).id), .int .i64 ((l.getD k a0).minute), .int .i64 ((l.getD k a0).days), .bool ((l.getD k a0).off)]]) rfl ?_
       exact ih (k + 1) _ Sx17 cx18 _ (by omega) (by omega) (by rw [he]; exact ringsL_yes (by omega) (by unfold ringsA; generalize l.getD k a0 = x at *; first | (simp [*]; done) | (simp [*]; omega))) (by simp; omega)
      ·have hx15 : ((m % 10080) % 1440) ≠ (l.getD k a0).minute := by simpa using hx15
       refine At.cond 300 false (c := .tmp 45) (k1 := pt11_12) (k2 := pt11_13) (by kernel_rfl) (by intro u; kernel_rfl) (fun h => by cases h) (fun _ => ?_)
       refine At.pick [5, 6, 16, 17, 18] (e' := [(5, .int .i64 (m % 10080)), (6, .slice So q co), (16, .slice S l.length cap), (17, .int .i64 (l.length : Int)), (18, .int .i64 (k : Int))]) (by kernel_rfl) ?_
       refine At.region (ops := opt11_13) (m := 2) (k' := kt11_2) (by kernel_rfl) 300 (k'' := pt11_5) (by kernel_rfl) ?_
       refine SOps.v (Val.pe 51 (.int .i64 (IntKind.i64.wrap ((k : Int) + 1))) (.int .i64 ((k + 1 : Nat) : Int)) (by intro u; kernel_rfl) (i64_in (by omega) (by omega) (by omega))) ?_
       refine SOps.pures 1 (i' := 2) (m' := 0) (e' := [(18, .int .i64 ((k + 1 : Nat) : Int)), (51, .int .i64 ((k + 1 : Nat) : Int)), (5, .int .i64 (m % 10080)), (6, .slice So q co), (16, .slice S l.length cap), (17, .int .i64 (l.length : Int)), (18, .int .i64 (k : Int))]) (by intro u; kernel_rfl) ?_
       refine SOps.nil (.inl rfl) ?_
       refine At.pick [5, 6, 16, 17, 18] (e' := [(5, .int .i64 (m % 10080)), (6, .slice So q co), (16, .slice S l.length cap), (17, .int .i64 (l.length : Int)), (18, .int .i64 ((k + 1 : Nat) : Int))]) (by kernel_rfl) ?_
       refine At.keep [1, 1] (B := [Grow So co 3 1 q (ints acc), Grow S cap 30 4 l.length (l.flatMap encA)]) (D := [Cells bx2 30 [.int .i64 ((l.getD k a0).id), .int .i64 ((l.getD k a0).minute), .int .i64 ((l.getD k a0).days), .bool ((l.getD k a0).off)]]) rfl ?_
       exact ih (k + 1) _ So co _ (by omega) (by omega) (by rw [he]; exact ringsL_no (by omega) (by unfold ringsA; generalize l.getD k a0 = x at *; first | (simp [*]; done) | (simp [*]; omega))) hql
     ·have hx14 : (((l.getD k a0).days / 2 ^ (m % 10080 / 1440).toNat) % 2) ≠ 1 := by simpa using hx14
      refine SOps.pures 6 (i' := 15) (m' := 0) (e' := [(45, .bool false), (44, .tuple #[]), (43, .tuple #[]), (42, .tuple #[]), (41, .tuple #[]), (40, .tuple #[]), (39, .bool false), (38, .bool false), (37, .bool false), (36, .int .i64 (((l.getD k a0).days / 2 ^ (m % 10080 / 1440).toNat) % 2)), (35, .int .i64 ((l.getD k a0).days / 2 ^ (m % 10080 / 1440).toNat)), (34, .bool true), (33, .bool true), (32, .bool ((l.getD k a0).off)), (31, .pointer (some ⟨bx2, 3, none⟩)), (5, .int .i64 (m % 10080)), (6, .slice So q co), (8, .pointer (some ⟨bx2, 0, none⟩)), (9, .int .i64 ((l.getD k a0).days / 2 ^ (m % 10080 / 1440).toNat)), (16, .slice S l.length cap), (17, .int .i64 (l.length : Int)), (18, .int .i64 (k : Int))]) (by intro u; kernel_rfl) ?_
      refine SOps.nil (.inl rfl) ?_
      refine At.pick [5, 6, 8, 16, 17, 18, 45] (e' := [(5, .int .i64 (m % 10080)), (6, .slice So q co), (8, .pointer (some ⟨bx2, 0, none⟩)), (16, .slice S l.length cap), (17, .int .i64 (l.length : Int)), (18, .int .i64 (k : Int)), (45, .bool false)]) (by kernel_rfl) ?_
      refine At.cond 300 false (c := .tmp 45) (k1 := pt11_12) (k2 := pt11_13) (by kernel_rfl) (by intro u; kernel_rfl) (fun h => by cases h) (fun _ => ?_)
      refine At.pick [5, 6, 16, 17, 18] (e' := [(5, .int .i64 (m % 10080)), (6, .slice So q co), (16, .slice S l.length cap), (17, .int .i64 (l.length : Int)), (18, .int .i64 (k : Int))]) (by kernel_rfl) ?_
      refine At.region (ops := opt11_13) (m := 2) (k' := kt11_2) (by kernel_rfl) 300 (k'' := pt11_5) (by kernel_rfl) ?_
      refine SOps.v (Val.pe 51 (.int .i64 (IntKind.i64.wrap ((k : Int) + 1))) (.int .i64 ((k + 1 : Nat) : Int)) (by intro u; kernel_rfl) (i64_in (by omega) (by omega) (by omega))) ?_
      refine SOps.pures 1 (i' := 2) (m' := 0) (e' := [(18, .int .i64 ((k + 1 : Nat) : Int)), (51, .int .i64 ((k + 1 : Nat) : Int)), (5, .int .i64 (m % 10080)), (6, .slice So q co), (16, .slice S l.length cap), (17, .int .i64 (l.length : Int)), (18, .int .i64 (k : Int))]) (by intro u; kernel_rfl) ?_
      refine SOps.nil (.inl rfl) ?_
      refine At.pick [5, 6, 16, 17, 18] (e' := [(5, .int .i64 (m % 10080)), (6, .slice So q co), (16, .slice S l.length cap), (17, .int .i64 (l.length : Int)), (18, .int .i64 ((k + 1 : Nat) : Int))]) (by kernel_rfl) ?_
      refine At.keep [1, 1] (B := [Grow So co 3 1 q (ints acc), Grow S cap 30 4 l.length (l.flatMap encA)]) (D := [Cells bx2 30 [.int .i64 ((l.getD k a0).id), .int .i64 ((l.getD k a0).minute), .int .i64 ((l.getD k a0).days), .bool ((l.getD k a0).off)]]) rfl ?_
      exact ih (k + 1) _ So co _ (by omega) (by omega) (by rw [he]; exact ringsL_no (by omega) (by unfold ringsA; generalize l.getD k a0 = x at *; first | (simp [*]; done) | (simp [*]; omega))) hql
    ·refine SOps.pures 11 (i' := 15) (m' := 0) (e' := [(45, .bool false), (44, .tuple #[]), (43, .tuple #[]), (42, .tuple #[]), (41, .tuple #[]), (40, .tuple #[]), (39, .bool false), (38, .bool false), (37, .tuple #[]), (36, .tuple #[]), (35, .tuple #[]), (34, .bool false), (33, .bool false), (32, .bool ((l.getD k a0).off)), (31, .pointer (some ⟨bx2, 3, none⟩)), (5, .int .i64 (m % 10080)), (6, .slice So q co), (8, .pointer (some ⟨bx2, 0, none⟩)), (9, .int .i64 ((l.getD k a0).days / 2 ^ (m % 10080 / 1440).toNat)), (16, .slice S l.length cap), (17, .int .i64 (l.length : Int)), (18, .int .i64 (k : Int))]) (by intro u; kernel_rfl) ?_
     refine SOps.nil (.inl rfl) ?_
     refine At.pick [5, 6, 8, 16, 17, 18, 45] (e' := [(5, .int .i64 (m % 10080)), (6, .slice So q co), (8, .pointer (some ⟨bx2, 0, none⟩)), (16, .slice S l.length cap), (17, .int .i64 (l.length : Int)), (18, .int .i64 (k : Int)), (45, .bool false)]) (by kernel_rfl) ?_
     refine At.cond 300 false (c := .tmp 45) (k1 := pt11_12) (k2 := pt11_13) (by kernel_rfl) (by intro u; kernel_rfl) (fun h => by cases h) (fun _ => ?_)
     refine At.pick [5, 6, 16, 17, 18] (e' := [(5, .int .i64 (m % 10080)), (6, .slice So q co), (16, .slice S l.length cap), (17, .int .i64 (l.length : Int)), (18, .int .i64 (k : Int))]) (by kernel_rfl) ?_
     refine At.region (ops := opt11_13) (m := 2) (k' := kt11_2) (by kernel_rfl) 300 (k'' := pt11_5) (by kernel_rfl) ?_
     refine SOps.v (Val.pe 51 (.int .i64 (IntKind.i64.wrap ((k : Int) + 1))) (.int .i64 ((k + 1 : Nat) : Int)) (by intro u; kernel_rfl) (i64_in (by omega) (by omega) (by omega))) ?_
     refine SOps.pures 1 (i' := 2) (m' := 0) (e' := [(18, .int .i64 ((k + 1 : Nat) : Int)), (51, .int .i64 ((k + 1 : Nat) : Int)), (5, .int .i64 (m % 10080)), (6, .slice So q co), (16, .slice S l.length cap), (17, .int .i64 (l.length : Int)), (18, .int .i64 (k : Int))]) (by intro u; kernel_rfl) ?_
     refine SOps.nil (.inl rfl) ?_
     refine At.pick [5, 6, 16, 17, 18] (e' := [(5, .int .i64 (m % 10080)), (6, .slice So q co), (16, .slice S l.length cap), (17, .int .i64 (l.length : Int)), (18, .int .i64 ((k + 1 : Nat) : Int))]) (by kernel_rfl) ?_
     refine At.keep [1, 1] (B := [Grow So co 3 1 q (ints acc), Grow S cap 30 4 l.length (l.flatMap encA)]) (D := [Cells bx2 30 [.int .i64 ((l.getD k a0).id), .int .i64 ((l.getD k a0).minute), .int .i64 ((l.getD k a0).days), .bool ((l.getD k a0).off)]]) rfl ?_
     exact ih (k + 1) _ So co _ (by omega) (by omega) (by rw [he]; exact ringsL_no (by omega) (by unfold ringsA; generalize l.getD k a0 = x at *; first | (simp [*]; done) | (simp [*]; omega))) hql
   have h0 := lrings_inner S cap l hg m bx2 k q So co acc (by omega) hK ((m % 10080 / 1440).toNat + 1) 0 (by omega) (by omega)
   rw [show (l.getD k a0).days / 2 ^ 0 = (l.getD k a0).days by simp] at h0
   exact h0
  ·have hx1 : (k : Int) ≥ (l.length : Int) := by simpa using hx1
   refine At.cond 300 false (c := .tmp 19) (k1 := pt11_7) (k2 := pt11_8) (by kernel_rfl) (by intro u; kernel_rfl) (fun h => by cases h) (fun _ => ?_)
   refine At.pick [6] (e' := [(6, .slice So q co)]) (by kernel_rfl) ?_
   refine At.region (ops := opt11_8) (m := 2) (k' := kt11_16) (by kernel_rfl) 300 (k'' := pt11_14) (by kernel_rfl) ?_
   refine SOps.pures 2 (i' := 2) (m' := 0) (e' := [(4, .slice So q co), (52, .slice So q co), (6, .slice So q co)]) (by intro u; kernel_rfl) ?_
   refine SOps.nil (.inl rfl) ?_
   refine At.pick [4] (e' := [(4, .slice So q co)]) (by kernel_rfl) ?_
   refine At.ret1 (fn := Try.f11) (v := .slice So q co) (t := 4) (by kernel_rfl) Try.func11 (by kernel_rfl) (by kernel_rfl) (fun F w ho => ?_)
   have hk2 : acc = ringsL l m := by rw [he]; exact ringsL_all l m (by omega)
   subst hql; subst hk2
   exact shutX (p := fun _ => True) (So, co) rfl trivial [0, 0] rfl ho
theorem lrings (S : Option Addr) (cap : Nat) (l : List Alarm) (hg : GoodA l) (m : Int) : Ctr Try.prog 11 #[.slice S l.length cap, .int .i64 m] [Grow S cap 30 4 l.length (l.flatMap encA)] (fun v' => ex fun x : Option Addr × Nat => fact (v' = .slice x.1 (ringsL l m).length x.2) :: fact True :: [Grow x.1 x.2 3 1 (ringsL l m).length (ints (ringsL l m)), Grow S cap 30 4 l.length (l.flatMap encA)]) false := by
 refine spec_of_at (fn := Try.f11) (c := bd11) (args := [.slice S l.length cap, .int .i64 m]) (n := 53) (e := [(0, .slice S l.length cap), (1, .int .i64 m)]) (k := pt11_15) Try.func11 (by kernel_rfl) (by kernel_rfl) (by kernel_rfl) (by kernel_rfl) 300 (by kernel_rfl) ?_
 have hlen := hg.len
 refine At.region (ops := opt11_15) (m := 1) (k' := kt11_19) (by kernel_rfl) 300 (k'' := pt11_16) (by kernel_rfl) ?_
 refine SOps.pures 1 (i' := 1) (m' := 0) (e' := [(4, .slice none 0 0), (0, .slice S l.length cap), (1, .int .i64 m)]) (by intro u; kernel_rfl) ?_
 refine SOps.nil (.inl rfl) ?_
 refine At.pick [0, 1] (e' := [(0, .slice S l.length cap), (1, .int .i64 m)]) (by kernel_rfl) ?_
 refine At.region (ops := opt11_16) (m := 3) (k' := kt11_20) (by kernel_rfl) 300 (k'' := pt11_17) (by kernel_rfl) ?_
 refine SOps.pures 1 (i' := 1) (m' := 2) (e' := [(10, .int .i64 m), (0, .slice S l.length cap), (1, .int .i64 m)]) (by intro u; kernel_rfl) ?_
 have ht := tmod_lt (a := m) (b := 10080) (by omega)
 have hte := tmod_emod (a := m) (b := 10080) (by omega)
 obtain ⟨r, hr⟩ : ∃ r, r = Int.tmod m 10080 := ⟨_, rfl⟩
 rw [← hr] at ht hte
 refine SOps.v (Val.pv 11 (vN (Op.intDiv .rem .i64 m 10080)) (.int .i64 r) (by intro u; kernel_rfl) (pv_remT (by omega) hr.symm)) ?_
 refine SOps.pures 1 (i' := 3) (m' := 0) (e' := [(5, .int .i64 r), (11, .int .i64 r), (10, .int .i64 m), (0, .slice S l.length cap), (1, .int .i64 m)]) (by intro u; kernel_rfl) ?_
 refine SOps.nil (.inl rfl) ?_
 refine At.pick [0, 5] (e' := [(0, .slice S l.length cap), (5, .int .i64 r)]) (by kernel_rfl) ?_
 refine At.region (ops := opt11_17) (m := 2) (k' := kt11_22) (by kernel_rfl) 300 (k'' := pt11_18) (by kernel_rfl) ?_
 refine SOps.pures 2 (i' := 2) (m' := 0) (e' := [(13, .bool (decide (r < 0))), (12, .int .i64 r), (0, .slice S l.length cap), (5, .int .i64 r)]) (by intro u; kernel_rfl) ?_
 refine SOps.nil (.inl rfl) ?_
 refine At.pick [0, 5, 13] (e' := [(0, .slice S l.length cap), (5, .int .i64 r), (13, .bool (decide (r < 0)))]) (by kernel_rfl) ?_
 refine At.split (fun zq => [(0, .slice S l.length cap), (5, .int .i64 r), (13, .bool zq)]) (decide (r < 0)) (fun hx1 => ?_) (fun hx1 => ?_)
 ·have hx1 : r < 0 := by simpa using hx1
  refine At.cond 300 true (c := .tmp 13) (k1 := pt11_19) (k2 := pt11_20) (by kernel_rfl) (by intro u; kernel_rfl) (fun _ => ?_) (fun h => by cases h)
  refine At.pick [0, 5] (e' := [(0, .slice S l.length cap), (5, .int .i64 r)]) (by kernel_rfl) ?_
  refine At.region (ops := opt11_19) (m := 3) (k' := kt11_21) (by kernel_rfl) 300 (k'' := pt11_20) (by kernel_rfl) ?_
  refine SOps.pures 1 (i' := 1) (m' := 2) (e' := [(14, .int .i64 r), (0, .slice S l.length cap), (5, .int .i64 r)]) (by intro u; kernel_rfl) ?_
  refine SOps.v (Val.pe 15 (.int .i64 (IntKind.i64.wrap (r + 10080))) (.int .i64 (r + 10080)) (by intro u; kernel_rfl) (i64_in rfl (by omega) (by omega))) ?_
  refine SOps.pures 1 (i' := 3) (m' := 0) (e' := [(5, .int .i64 (r + 10080)), (15, .int .i64 (r + 10080)), (14, .int .i64 r), (0, .slice S l.length cap), (5, .int .i64 r)]) (by intro u; kernel_rfl) ?_
  refine SOps.nil (.inl rfl) ?_
  refine At.pick [0, 5] (e' := [(0, .slice S l.length cap), (5, .int .i64 (r + 10080))]) (by kernel_rfl) ?_
  refine At.region (ops := opt11_20) (m := 1) (k' := kt11_23) (by kernel_rfl) 300 (k'' := pt11_21) (by kernel_rfl) ?_
  refine SOps.pures 1 (i' := 1) (m' := 0) (e' := [(6, .slice none 0 0), (0, .slice S l.length cap), (5, .int .i64 (r + 10080))]) (by intro u; kernel_rfl) ?_
  refine SOps.nil (.inl rfl) ?_
  refine At.pick [0, 5, 6] (e' := [(0, .slice S l.length cap), (5, .int .i64 (r + 10080)), (6, .slice none 0 0)]) (by kernel_rfl) ?_
  refine At.region (ops := opt11_21) (m := 3) (k' := kt11_24) (by kernel_rfl) 300 (k'' := pt11_5) (by kernel_rfl) ?_
  refine SOps.pures 3 (i' := 3) (m' := 0) (e' := [(18, .int .i64 0), (17, .int .i64 ((l.length : Nat) : Int)), (16, .slice S l.length cap), (0, .slice S l.length cap), (5, .int .i64 (r + 10080)), (6, .slice none 0 0)]) (by intro u; kernel_rfl) ?_
  refine SOps.nil (.inl rfl) ?_
  refine At.pick [5, 6, 16, 17, 18] (e' := [(5, .int .i64 (r + 10080)), (6, .slice none 0 0), (16, .slice S l.length cap), (17, .int .i64 ((l.length : Nat) : Int)), (18, .int .i64 0)]) (by kernel_rfl) ?_
  refine At.conseq1 (fun F w ho => Grow.nil_ 3 1 ho) ?_
  refine At.keep [0, 0] (B := [Grow none 0 3 1 0 (ints ([])), Grow S cap 30 4 l.length (l.flatMap encA)]) (D := []) rfl ?_
  have h0 := lrings_outer S cap l hg m (l.length + 1) 0 0 none 0 [] (by omega) (by omega) rfl rfl
  rw [show m % 10080 = (r + 10080) by omega] at h0
  exact h0
 ·have hx1 : r ≥ 0 := by simpa using hx1
  refine At.cond 300 false (c := .tmp 13) (k1 := pt11_19) (k2 := pt11_20) (by kernel_rfl) (by intro u; kernel_rfl) (fun h => by cases h) (fun _ => ?_)
  refine At.pick [0, 5] (e' := [(0, .slice S l.length cap), (5, .int .i64 r)]) (by kernel_rfl) ?_
  refine At.region (ops := opt11_20) (m := 1) (k' := kt11_23) (by kernel_rfl) 300 (k'' := pt11_21) (by kernel_rfl) ?_
  refine SOps.pures 1 (i' := 1) (m' := 0) (e' := [(6, .slice none 0 0), (0, .slice S l.length cap), (5, .int .i64 r)]) (by intro u; kernel_rfl) ?_
  refine SOps.nil (.inl rfl) ?_
  refine At.pick [0, 5, 6] (e' := [(0, .slice S l.length cap), (5, .int .i64 r), (6, .slice none 0 0)]) (by kernel_rfl) ?_
  refine At.region (ops := opt11_21) (m := 3) (k' := kt11_24) (by kernel_rfl) 300 (k'' := pt11_5) (by kernel_rfl) ?_
  refine SOps.pures 3 (i' := 3) (m' := 0) (e' := [(18, .int .i64 0), (17, .int .i64 ((l.length : Nat) : Int)), (16, .slice S l.length cap), (0, .slice S l.length cap), (5, .int .i64 r), (6, .slice none 0 0)]) (by intro u; kernel_rfl) ?_
  refine SOps.nil (.inl rfl) ?_
  refine At.pick [5, 6, 16, 17, 18] (e' := [(5, .int .i64 r), (6, .slice none 0 0), (16, .slice S l.length cap), (17, .int .i64 ((l.length : Nat) : Int)), (18, .int .i64 0)]) (by kernel_rfl) ?_
  refine At.conseq1 (fun F w ho => Grow.nil_ 3 1 ho) ?_
  refine At.keep [0, 0] (B := [Grow none 0 3 1 0 (ints ([])), Grow S cap 30 4 l.length (l.flatMap encA)]) (D := []) rfl ?_
  have h0 := lrings_outer S cap l hg m (l.length + 1) 0 0 none 0 [] (by omega) (by omega) rfl rfl
  rw [show m % 10080 = r by omega] at h0
  exact h0
noncomputable def bd9 : Code := (Try.f9.body).getD .skip
noncomputable def kt9_0 : List Item := .code (pick [1, 1, 1] bd9) :: []
noncomputable def kt9_1 : List Item := .inBlock 0 :: kt9_0
noncomputable def kt9_2 : List Item := .inLoop (pick [1, 1, 0, 1, 0, 0] bd9) :: kt9_1
noncomputable def kt9_3 : List Item := .code (pick [1, 1, 0, 1, 0, 0, 1] bd9) :: kt9_2
noncomputable def pt9_0 : List Item := .code (pick [1, 1, 0, 1, 0, 0, 0] bd9) :: kt9_3
noncomputable def opt9_0 : Array Oper := opsOf (pick [1, 1, 0, 1, 0, 0, 0] bd9)
noncomputable def kt9_4 : List Item := .code (pick [1, 1, 0, 1, 0, 0, 1, 1] bd9) :: kt9_2
noncomputable def pt9_1 : List Item := .code (pick [1, 1, 0, 1, 0, 0, 1, 0] bd9) :: kt9_4
noncomputable def kt9_5 : List Item := .code (pick [1, 1, 0, 1, 0, 0, 1, 1, 1] bd9) :: kt9_2
noncomputable def kt9_6 : List Item := .inBlock 1 :: kt9_5
noncomputable def kt9_7 : List Item := .code (pick [1, 1, 0, 1, 0, 0, 1, 1, 0, 0, 1] bd9) :: kt9_6
noncomputable def pt9_2 : List Item := .code (pick [1, 1, 0, 1, 0, 0, 1, 1, 0, 0, 0] bd9) :: kt9_7
noncomputable def opt9_2 : Array Oper := opsOf (pick [1, 1, 0, 1, 0, 0, 1, 1, 0, 0, 0] bd9)
noncomputable def kt9_8 : List Item := .code (pick [1, 1, 1, 1] bd9) :: []
noncomputable def pt9_3 : List Item := .code (pick [1, 1, 1, 0] bd9) :: kt9_8
noncomputable def opt9_3 : Array Oper := opsOf (pick [1, 1, 1, 0] bd9)
noncomputable def kt9_9 : List Item := .code (pick [1, 1, 0, 1, 0, 0, 1, 1, 0, 0, 1, 1] bd9) :: kt9_6
noncomputable def pt9_4 : List Item := .code (pick [1, 1, 0, 1, 0, 0, 1, 1, 0, 0, 1, 0] bd9) :: kt9_9
noncomputable def opt9_4 : Array Oper := opsOf (pick [1, 1, 0, 1, 0, 0, 1, 1, 0, 0, 1, 0] bd9)
noncomputable def pt9_5 : List Item := .code (pick [1, 1, 0, 1, 0, 0, 1, 1, 0, 0, 1, 1] bd9) :: kt9_6
noncomputable def kt9_10 : List Item := .code (pick [1, 1, 0, 1, 0, 0, 1, 1, 0, 0, 1, 1, 0, 1] bd9) :: kt9_6
noncomputable def pt9_6 : List Item := .code (pick [1, 1, 0, 1, 0, 0, 1, 1, 0, 0, 1, 1, 0, 0] bd9) :: kt9_10
noncomputable def opt9_6 : Array Oper := opsOf (pick [1, 1, 0, 1, 0, 0, 1, 1, 0, 0, 1, 1, 0, 0] bd9)
noncomputable def pt9_7 : List Item := .code (pick [1, 1, 0, 1, 0, 0, 1, 1, 1] bd9) :: kt9_2
noncomputable def opt9_7 : Array Oper := opsOf (pick [1, 1, 0, 1, 0, 0, 1, 1, 1] bd9)
noncomputable def pt9_8 : List Item := .code (pick [1, 1, 0, 1, 0, 0, 1, 1, 0, 0, 1, 1, 0, 1] bd9) :: kt9_6
noncomputable def pt9_9 : List Item := .code (pick [1, 1, 1, 1] bd9) :: []
noncomputable def kt9_11 : List Item := .code (pick [1] bd9) :: []
noncomputable def pt9_10 : List Item := .code (pick [0] bd9) :: kt9_11
noncomputable def opt9_10 : Array Oper := opsOf (pick [0] bd9)
noncomputable def kt9_12 : List Item := .code (pick [1, 1] bd9) :: []
noncomputable def kt9_13 : List Item := .code (pick [1, 0, 1] bd9) :: kt9_12
noncomputable def pt9_11 : List Item := .code (pick [1, 0, 0] bd9) :: kt9_13
noncomputable def opt9_11 : Array Oper := opsOf (pick [1, 0, 0] bd9)
noncomputable def pt9_12 : List Item := .code (pick [1, 0, 1] bd9) :: kt9_12
noncomputable def kt9_14 : List Item := .code (pick [1, 0, 1, 0, 1] bd9) :: kt9_12
noncomputable def pt9_13 : List Item := .code (pick [1, 0, 1, 0, 0] bd9) :: kt9_14
noncomputable def opt9_13 : Array Oper := opsOf (pick [1, 0, 1, 0, 0] bd9)
noncomputable def kt9_15 : List Item := .code (pick [1, 1, 0, 1] bd9) :: kt9_0
noncomputable def pt9_14 : List Item := .code (pick [1, 1, 0, 0] bd9) :: kt9_15
noncomputable def opt9_14 : Array Oper := opsOf (pick [1, 1, 0, 0] bd9)
noncomputable def pt9_15 : List Item := .code (pick [1, 0, 1, 0, 1] bd9) :: kt9_12
theorem same_loop (A Z : Option Addr) (n n2 ca cz : Nat) (a b : List Int) (ha : a.length = n) (hb : b.length = n2) (hn : n ≤ 10000000) (hnn : n = n2) : ∀ (mm k : Nat), n - k < mm → k ≤ n → (∀ i, i < k → a.getD i 0 = b.getD i 0) → At ⟨Try.prog, 9, (fun v' => star (fact (v' = .bool (decide (a = b))) :: [Grow A ca 3 1 n (ints a), Grow Z cz 3 1 n2 (ints b)])), 26, false⟩ pt9_0 [(0, .slice A n ca), (1, .slice Z n2 cz), (12, .int .i64 (n : Int)), (13, .int .i64 (k : Int))] [Grow A ca 3 1 n (ints a), Grow Z cz 3 1 n2 (ints b)] := by
 intro mm
 induction mm with
 | zero => intro k h; omega
 | succ mm ih =>
  intro k hm hk hq
  refine At.region (ops := opt9_0) (m := 1) (k' := kt9_3) (by kernel_rfl) 300 (k'' := pt9_1) (by kernel_rfl) ?_
  refine SOps.pures 1 (i' := 1) (m' := 0) (e' := [(14, .bool (decide ((k : Int) < (n : Int)))), (0, .slice A n ca), (1, .slice Z n2 cz), (12, .int .i64 (n : Int)), (13, .int .i64 (k : Int))]) (by intro u; kernel_rfl) ?_
  refine SOps.nil (.inl rfl) ?_
  refine At.pick [0, 1, 12, 13, 14] (e' := [(0, .slice A n ca), (1, .slice Z n2 cz), (12, .int .i64 (n : Int)), (13, .int .i64 (k : Int)), (14, .bool (decide ((k : Int) < (n : Int))))]) (by kernel_rfl) ?_
  refine At.split (fun zq => [(0, .slice A n ca), (1, .slice Z n2 cz), (12, .int .i64 (n : Int)), (13, .int .i64 (k : Int)), (14, .bool zq)]) (decide ((k : Int) < (n : Int))) (fun hx1 => ?_) (fun hx1 => ?_)
  ·have hx1 : (k : Int) < (n : Int) := by simpa using hx1
   refine At.cond 300 true (c := .tmp 14) (k1 := pt9_2) (k2 := pt9_3) (by kernel_rfl) (by intro u; kernel_rfl) (fun _ => ?_) (fun h => by cases h)
   refine At.pick [0, 1, 12, 13] (e' := [(0, .slice A n ca), (1, .slice Z n2 cz), (12, .int .i64 (n : Int)), (13, .int .i64 (k : Int))]) (by kernel_rfl) ?_
   refine At.region (ops := opt9_2) (m := 2) (k' := kt9_7) (by kernel_rfl) 300 (k'' := pt9_4) (by kernel_rfl) ?_
   refine SOps.pures 2 (i' := 2) (m' := 0) (e' := [(5, .int .i64 (k : Int)), (15, .int .i64 (k : Int)), (0, .slice A n ca), (1, .slice Z n2 cz), (12, .int .i64 (n : Int)), (13, .int .i64 (k : Int))]) (by intro u; kernel_rfl) ?_
   refine SOps.nil (.inl rfl) ?_
   refine At.pick [0, 1, 5, 12, 13] (e' := [(0, .slice A n ca), (1, .slice Z n2 cz), (5, .int .i64 (k : Int)), (12, .int .i64 (n : Int)), (13, .int .i64 (k : Int))]) (by kernel_rfl) ?_
   refine At.regionQ (ops := opt9_4) (m := 9) (k' := kt9_9) (by kernel_rfl) 300 (k'' := pt9_5) (by kernel_rfl) (by kernel_rfl) (by kernel_rfl) ?_
   refine SOps.pures 2 (i' := 2) (m' := 7) (e' := [(17, .int .i64 (k : Int)), (16, .slice A n ca), (0, .slice A n ca), (1, .slice Z n2 cz), (5, .int .i64 (k : Int)), (12, .int .i64 (n : Int)), (13, .int .i64 (k : Int))]) (by intro u; kernel_rfl) ?_
   refine SOps.learn (fun F w ho => Grow.some (j := 0) ho rfl) (fun hA => ?_)
   refine SOps.v (Val.pv 18 (vN (Instr.indexAt 32 (.slice A n ca) (.int .i64 (k : Int)))) (.pointer (some ⟨(blk A), k, none⟩)) (by intro u; kernel_rfl) (pv_indexO (el := 3) (sz := 1) (by kernel_rfl) (by kernel_rfl) (by omega) (by omega) (hA.1 (by omega)) (by omega))) ?_
   refine SOps.v (Val.ld1 0 19 3 (blk A) k (.int .i64 (a.getD k 0)) rfl (by intro u; kernel_rfl) (by kernel_rfl) (Rd.grow (ints_get (by omega)))) ?_
   refine SOps.pures 2 (i' := 6) (m' := 3) (e' := [(21, .int .i64 (k : Int)), (20, .slice Z n2 cz), (19, .int .i64 (a.getD k 0)), (18, .pointer (some ⟨(blk A), k, none⟩)), (17, .int .i64 (k : Int)), (16, .slice A n ca), (0, .slice A n ca), (1, .slice Z n2 cz), (5, .int .i64 (k : Int)), (12, .int .i64 (n : Int)), (13, .int .i64 (k : Int))]) (by intro u; kernel_rfl) ?_
   refine SOps.learn (fun F w ho => Grow.some (j := 1) ho rfl) (fun hZ => ?_)
   refine SOps.v (Val.pv 22 (vN (Instr.indexAt 32 (.slice Z n2 cz) (.int .i64 (k : Int)))) (.pointer (some ⟨(blk Z), k, none⟩)) (by intro u; kernel_rfl) (pv_indexO (el := 3) (sz := 1) (by kernel_rfl) (by kernel_rfl) (by omega) (by omega) (hZ.1 (by omega)) (by omega))) ?_
   refine SOps.v (Val.ld1 1 23 3 (blk Z) k (.int .i64 (b.getD k 0)) rfl (by intro u; kernel_rfl) (by kernel_rfl) (Rd.grow (ints_get (by omega)))) ?_
   refine SOps.pures 1 (i' := 9) (m' := 0) (e' := [(24, .bool ((a.getD k 0) != (b.getD k 0))), (23, .int .i64 (b.getD k 0)), (22, .pointer (some ⟨(blk Z), k, none⟩)), (21, .int .i64 (k : Int)), (20, .slice Z n2 cz), (19, .int .i64 (a.getD k 0)), (18, .pointer (some ⟨(blk A), k, none⟩)), (17, .int .i64 (k : Int)), (16, .slice A n ca), (0, .slice A n ca), (1, .slice Z n2 cz), (5, .int .i64 (k : Int)), (12, .int .i64 (n : Int)), (13, .int .i64 (k : Int))]) (by intro u; kernel_rfl) ?_
   refine SOps.nil (.inr (by kernel_rfl)) ?_
   refine At.pick [0, 1, 12, 13, 24] (e' := [(0, .slice A n ca), (1, .slice Z n2 cz), (12, .int .i64 (n : Int)), (13, .int .i64 (k : Int)), (24, .bool ((a.getD k 0) != (b.getD k 0)))]) (by kernel_rfl) ?_
   refine At.split (fun zq => [(0, .slice A n ca), (1, .slice Z n2 cz), (12, .int .i64 (n : Int)), (13, .int .i64 (k : Int)), (24, .bool zq)]) (((a.getD k 0) != (b.getD k 0))) (fun hx2 => ?_) (fun hx2 => ?_)
   ·have hx2 : (a.getD k 0) ≠ (b.getD k 0) := by simpa using hx2
    refine At.cond 300 true (c := .tmp 24) (k1 := pt9_6) (k2 := pt9_7) (by kernel_rfl) (by intro u; kernel_rfl) (fun _ => ?_) (fun h => by cases h)
    refine At.pick [] (e' := []) (by kernel_rfl) ?_
    refine At.region (ops := opt9_6) (m := 1) (k' := kt9_10) (by kernel_rfl) 300 (k'' := pt9_8) (by kernel_rfl) ?_
    refine SOps.pures 1 (i' := 1) (m' := 0) (e' := [(4, .bool false)]) (by intro u; kernel_rfl) ?_
    refine SOps.nil (.inl rfl) ?_
    refine At.ret1 (fn := Try.f9) (v := .bool false) (t := 4) (by kernel_rfl) Try.func9 (by kernel_rfl) (by kernel_rfl) (fun F w ho => ?_)
    exact shutV (by rw [ne_at (by assumption)]) [0, 0] rfl ho
   ·have hx2 : (a.getD k 0) = (b.getD k 0) := by simpa using hx2
    refine At.cond 300 false (c := .tmp 24) (k1 := pt9_6) (k2 := pt9_7) (by kernel_rfl) (by intro u; kernel_rfl) (fun h => by cases h) (fun _ => ?_)
    refine At.pick [0, 1, 12, 13] (e' := [(0, .slice A n ca), (1, .slice Z n2 cz), (12, .int .i64 (n : Int)), (13, .int .i64 (k : Int))]) (by kernel_rfl) ?_
    refine At.region (ops := opt9_7) (m := 2) (k' := kt9_2) (by kernel_rfl) 300 (k'' := pt9_0) (by kernel_rfl) ?_
    refine SOps.v (Val.pe 25 (.int .i64 (IntKind.i64.wrap ((k : Int) + 1))) (.int .i64 ((k + 1 : Nat) : Int)) (by intro u; kernel_rfl) (i64_in (by omega) (by omega) (by omega))) ?_
    refine SOps.pures 1 (i' := 2) (m' := 0) (e' := [(13, .int .i64 ((k + 1 : Nat) : Int)), (25, .int .i64 ((k + 1 : Nat) : Int)), (0, .slice A n ca), (1, .slice Z n2 cz), (12, .int .i64 (n : Int)), (13, .int .i64 (k : Int))]) (by intro u; kernel_rfl) ?_
    refine SOps.nil (.inl rfl) ?_
    refine At.pick [0, 1, 12, 13] (e' := [(0, .slice A n ca), (1, .slice Z n2 cz), (12, .int .i64 (n : Int)), (13, .int .i64 ((k + 1 : Nat) : Int))]) (by kernel_rfl) ?_
    refine At.keep [0, 0] (B := [Grow A ca 3 1 n (ints a), Grow Z cz 3 1 n2 (ints b)]) (D := []) rfl ?_
    refine ih (k + 1) (by omega) (by omega) (fun i hi => ?_)
    rcases Nat.lt_or_eq_of_le (Nat.le_of_lt_succ hi) with h3 | h3
    · exact hq i h3
    · rw [h3]; assumption
  ·have hx1 : (k : Int) ≥ (n : Int) := by simpa using hx1
   refine At.cond 300 false (c := .tmp 14) (k1 := pt9_2) (k2 := pt9_3) (by kernel_rfl) (by intro u; kernel_rfl) (fun h => by cases h) (fun _ => ?_)
   refine At.pick [] (e' := []) (by kernel_rfl) ?_
   refine At.region (ops := opt9_3) (m := 1) (k' := kt9_8) (by kernel_rfl) 300 (k'' := pt9_9) (by kernel_rfl) ?_
   refine SOps.pures 1 (i' := 1) (m' := 0) (e' := [(4, .bool true)]) (by intro u; kernel_rfl) ?_
   refine SOps.nil (.inl rfl) ?_
   refine At.ret1 (fn := Try.f9) (v := .bool true) (t := 4) (by kernel_rfl) Try.func9 (by kernel_rfl) (by kernel_rfl) (fun F w ho => ?_)
   exact shutV (by rw [all_take (hq) (by omega) (by omega)]; simp) [0, 0] rfl ho
theorem same (A Z : Option Addr) (n n2 ca cz : Nat) (a b : List Int) (ha : a.length = n) (hb : b.length = n2) (hn : n ≤ 10000000) : Ctr Try.prog 9 #[.slice A n ca, .slice Z n2 cz] [Grow A ca 3 1 n (ints a), Grow Z cz 3 1 n2 (ints b)] (fun v' => star (fact (v' = .bool (decide (a = b))) :: [Grow A ca 3 1 n (ints a), Grow Z cz 3 1 n2 (ints b)])) false := by
 refine spec_of_at (fn := Try.f9) (c := bd9) (args := [.slice A n ca, .slice Z n2 cz]) (n := 26) (e := [(0, .slice A n ca), (1, .slice Z n2 cz)]) (k := pt9_10) Try.func9 (by kernel_rfl) (by kernel_rfl) (by kernel_rfl) (by kernel_rfl) 300 (by kernel_rfl) ?_
 refine At.region (ops := opt9_10) (m := 1) (k' := kt9_11) (by kernel_rfl) 300 (k'' := pt9_11) (by kernel_rfl) ?_
 refine SOps.pures 1 (i' := 1) (m' := 0) (e' := [(4, .bool false), (0, .slice A n ca), (1, .slice Z n2 cz)]) (by intro u; kernel_rfl) ?_
 refine SOps.nil (.inl rfl) ?_
 refine At.pick [0, 1] (e' := [(0, .slice A n ca), (1, .slice Z n2 cz)]) (by kernel_rfl) ?_
 refine At.region (ops := opt9_11) (m := 5) (k' := kt9_13) (by kernel_rfl) 300 (k'' := pt9_12) (by kernel_rfl) ?_
 refine SOps.pures 5 (i' := 5) (m' := 0) (e' := [(10, .bool ((n : Int) != (n2 : Int))), (9, .int .i64 (n2 : Int)), (8, .slice Z n2 cz), (7, .int .i64 (n : Int)), (6, .slice A n ca), (0, .slice A n ca), (1, .slice Z n2 cz)]) (by intro u; kernel_rfl) ?_
 refine SOps.nil (.inl rfl) ?_
 refine At.pick [0, 1, 10] (e' := [(0, .slice A n ca), (1, .slice Z n2 cz), (10, .bool ((n : Int) != (n2 : Int)))]) (by kernel_rfl) ?_
 refine At.split (fun zq => [(0, .slice A n ca), (1, .slice Z n2 cz), (10, .bool zq)]) (((n : Int) != (n2 : Int))) (fun hx1 => ?_) (fun hx1 => ?_)
 ·have hx1 : (n : Int) ≠ (n2 : Int) := by simpa using hx1
  refine At.cond 300 true (c := .tmp 10) (k1 := pt9_13) (k2 := pt9_14) (by kernel_rfl) (by intro u; kernel_rfl) (fun _ => ?_) (fun h => by cases h)
  refine At.pick [] (e' := []) (by kernel_rfl) ?_
  refine At.region (ops := opt9_13) (m := 1) (k' := kt9_14) (by kernel_rfl) 300 (k'' := pt9_15) (by kernel_rfl) ?_
  refine SOps.pures 1 (i' := 1) (m' := 0) (e' := [(4, .bool false)]) (by intro u; kernel_rfl) ?_
  refine SOps.nil (.inl rfl) ?_
  refine At.ret1 (fn := Try.f9) (v := .bool false) (t := 4) (by kernel_rfl) Try.func9 (by kernel_rfl) (by kernel_rfl) (fun F w ho => ?_)
  exact shutV (by rw [ne_len (by omega)]) [0, 0] rfl ho
 ·have hx1 : (n : Int) = (n2 : Int) := by simpa using hx1
  refine At.cond 300 false (c := .tmp 10) (k1 := pt9_13) (k2 := pt9_14) (by kernel_rfl) (by intro u; kernel_rfl) (fun h => by cases h) (fun _ => ?_)
  refine At.pick [0, 1] (e' := [(0, .slice A n ca), (1, .slice Z n2 cz)]) (by kernel_rfl) ?_
  refine At.region (ops := opt9_14) (m := 3) (k' := kt9_15) (by kernel_rfl) 300 (k'' := pt9_0) (by kernel_rfl) ?_
  refine SOps.pures 3 (i' := 3) (m' := 0) (e' := [(13, .int .i64 0), (12, .int .i64 (n : Int)), (11, .slice A n ca), (0, .slice A n ca), (1, .slice Z n2 cz)]) (by intro u; kernel_rfl) ?_
  refine SOps.nil (.inl rfl) ?_
  refine At.pick [0, 1, 12, 13] (e' := [(0, .slice A n ca), (1, .slice Z n2 cz), (12, .int .i64 (n : Int)), (13, .int .i64 0)]) (by kernel_rfl) ?_
  refine At.keep [0, 0] (B := [Grow A ca 3 1 n (ints a), Grow Z cz 3 1 n2 (ints b)]) (D := []) rfl ?_
  exact same_loop A Z n n2 ca cz a b ha hb hn (by omega) (n + 1) 0 (by omega) (by omega) (fun i h => by omega)
end Go.Proofs.Wk
