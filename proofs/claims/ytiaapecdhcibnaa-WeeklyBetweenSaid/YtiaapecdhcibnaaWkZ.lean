/- WeeklyBetween. -/
import Derived.Test.YtiaapecdhcibnaaWkG
import Derived.Test.YtiaapecdhcibnaaWkY
import Derived.Test.YtiaapecdhcibnaaWkP
namespace Go.Proofs.Wk
open Go Go.Sp Go.Wk
set_option linter.unusedVariables false
set_option linter.unusedSimpArgs false
set_option linter.unnecessarySimpa false
set_option maxRecDepth 100000
noncomputable def bd5 : Code := (Try.f5.body).getD .skip
noncomputable def kt5_0 : List Item := .code (pick [1, 1, 1, 1, 1, 1, 1, 1] bd5) :: []
noncomputable def kt5_1 : List Item := .inBlock 0 :: kt5_0
noncomputable def kt5_2 : List Item := .inLoop (pick [1, 1, 1, 1, 1, 1, 1, 0, 1, 0, 0] bd5) :: kt5_1
noncomputable def kt5_3 : List Item := .code (pick [1, 1, 1, 1, 1, 1, 1, 0, 1, 0, 0, 1] bd5) :: kt5_2
noncomputable def pt5_0 : List Item := .code (pick [1, 1, 1, 1, 1, 1, 1, 0, 1, 0, 0, 0] bd5) :: kt5_3
noncomputable def opt5_0 : Array Oper := opsOf (pick [1, 1, 1, 1, 1, 1, 1, 0, 1, 0, 0, 0] bd5)
noncomputable def kt5_4 : List Item := .code (pick [1, 1, 1, 1, 1, 1, 1, 0, 1, 0, 0, 1, 1] bd5) :: kt5_2
noncomputable def pt5_1 : List Item := .code (pick [1, 1, 1, 1, 1, 1, 1, 0, 1, 0, 0, 1, 0] bd5) :: kt5_4
noncomputable def kt5_5 : List Item := .code (pick [1, 1, 1, 1, 1, 1, 1, 0, 1, 0, 0, 1, 1, 1] bd5) :: kt5_2
noncomputable def kt5_6 : List Item := .inBlock 1 :: kt5_5
noncomputable def kt5_7 : List Item := .code (pick [1, 1, 1, 1, 1, 1, 1, 0, 1, 0, 0, 1, 1, 0, 0, 1] bd5) :: kt5_6
noncomputable def pt5_2 : List Item := .code (pick [1, 1, 1, 1, 1, 1, 1, 0, 1, 0, 0, 1, 1, 0, 0, 0] bd5) :: kt5_7
noncomputable def opt5_2 : Array Oper := opsOf (pick [1, 1, 1, 1, 1, 1, 1, 0, 1, 0, 0, 1, 1, 0, 0, 0] bd5)
noncomputable def kt5_8 : List Item := .code (pick [1, 1, 1, 1, 1, 1, 1, 1, 1] bd5) :: []
noncomputable def pt5_3 : List Item := .code (pick [1, 1, 1, 1, 1, 1, 1, 1, 0] bd5) :: kt5_8
noncomputable def opt5_3 : Array Oper := opsOf (pick [1, 1, 1, 1, 1, 1, 1, 1, 0] bd5)
noncomputable def pt5_4 : List Item := .code (pick [1, 1, 1, 1, 1, 1, 1, 0, 1, 0, 0, 1, 1, 0, 0, 1] bd5) :: kt5_6
noncomputable def opt5_4 : Array Oper := opsOf (pick [1, 1, 1, 1, 1, 1, 1, 0, 1, 0, 0, 1, 1, 0, 0, 1] bd5)
noncomputable def pt5_5 : List Item := .code (pick [1, 1, 1, 1, 1, 1, 1, 0, 1, 0, 0, 1, 1, 1] bd5) :: kt5_2
noncomputable def opt5_5 : Array Oper := opsOf (pick [1, 1, 1, 1, 1, 1, 1, 0, 1, 0, 0, 1, 1, 1] bd5)
noncomputable def kt5_9 : List Item := .code (pick [1, 1, 1, 1, 1, 1, 1, 1, 1, 1] bd5) :: []
noncomputable def pt5_6 : List Item := .code (pick [1, 1, 1, 1, 1, 1, 1, 1, 1, 0] bd5) :: kt5_9
noncomputable def opt5_6 : Array Oper := opsOf (pick [1, 1, 1, 1, 1, 1, 1, 1, 1, 0] bd5)
noncomputable def kt5_10 : List Item := .code (pick [1, 1, 1, 1, 1, 1, 1, 1, 1, 1, 1] bd5) :: []
noncomputable def pt5_7 : List Item := .code (pick [1, 1, 1, 1, 1, 1, 1, 1, 1, 1, 0] bd5) :: kt5_10
noncomputable def opt5_7 : Array Oper := opsOf (pick [1, 1, 1, 1, 1, 1, 1, 1, 1, 1, 0] bd5)
noncomputable def pt5_8 : List Item := .code (pick [1, 1, 1, 1, 1, 1, 1, 1, 1, 1, 1] bd5) :: []
noncomputable def kt5_11 : List Item := .code (pick [1] bd5) :: []
noncomputable def pt5_9 : List Item := .code (pick [0] bd5) :: kt5_11
noncomputable def opt5_9 : Array Oper := opsOf (pick [0] bd5)
noncomputable def kt5_12 : List Item := .code (pick [1, 1] bd5) :: []
noncomputable def kt5_13 : List Item := .code (pick [1, 0, 1] bd5) :: kt5_12
noncomputable def pt5_10 : List Item := .code (pick [1, 0, 0] bd5) :: kt5_13
noncomputable def opt5_10 : Array Oper := opsOf (pick [1, 0, 0] bd5)
noncomputable def pt5_11 : List Item := .code (pick [1, 0, 1] bd5) :: kt5_12
noncomputable def kt5_14 : List Item := .code (pick [1, 0, 1, 0, 1] bd5) :: kt5_12
noncomputable def pt5_12 : List Item := .code (pick [1, 0, 1, 0, 0] bd5) :: kt5_14
noncomputable def opt5_12 : Array Oper := opsOf (pick [1, 0, 1, 0, 0] bd5)
noncomputable def kt5_15 : List Item := .code (pick [1, 1, 1] bd5) :: []
noncomputable def kt5_16 : List Item := .code (pick [1, 1, 0, 1] bd5) :: kt5_15
noncomputable def pt5_13 : List Item := .code (pick [1, 1, 0, 0] bd5) :: kt5_16
noncomputable def opt5_13 : Array Oper := opsOf (pick [1, 1, 0, 0] bd5)
noncomputable def pt5_14 : List Item := .code (pick [1, 1, 0, 1] bd5) :: kt5_15
noncomputable def kt5_17 : List Item := .code (pick [1, 1, 0, 1, 0, 1] bd5) :: kt5_15
noncomputable def pt5_15 : List Item := .code (pick [1, 1, 0, 1, 0, 0] bd5) :: kt5_17
noncomputable def opt5_15 : Array Oper := opsOf (pick [1, 1, 0, 1, 0, 0] bd5)
noncomputable def kt5_18 : List Item := .code (pick [1, 1, 1, 1] bd5) :: []
noncomputable def pt5_16 : List Item := .code (pick [1, 1, 1, 0] bd5) :: kt5_18
noncomputable def opt5_16 : Array Oper := opsOf (pick [1, 1, 1, 0] bd5)
noncomputable def pt5_17 : List Item := .code (pick [1, 1, 0, 1, 0, 1] bd5) :: kt5_15
noncomputable def kt5_19 : List Item := .code (pick [1, 1, 1, 1, 1] bd5) :: []
noncomputable def kt5_20 : List Item := .code (pick [1, 1, 1, 1, 0, 1] bd5) :: kt5_19
noncomputable def pt5_18 : List Item := .code (pick [1, 1, 1, 1, 0, 0] bd5) :: kt5_20
noncomputable def opt5_18 : Array Oper := opsOf (pick [1, 1, 1, 1, 0, 0] bd5)
noncomputable def pt5_19 : List Item := .code (pick [1, 1, 1, 1, 0, 1] bd5) :: kt5_19
noncomputable def kt5_21 : List Item := .code (pick [1, 1, 1, 1, 0, 1, 0, 1] bd5) :: kt5_19
noncomputable def pt5_20 : List Item := .code (pick [1, 1, 1, 1, 0, 1, 0, 0] bd5) :: kt5_21
noncomputable def opt5_20 : Array Oper := opsOf (pick [1, 1, 1, 1, 0, 1, 0, 0] bd5)
noncomputable def kt5_22 : List Item := .code (pick [1, 1, 1, 1, 1, 1] bd5) :: []
noncomputable def pt5_21 : List Item := .code (pick [1, 1, 1, 1, 1, 0] bd5) :: kt5_22
noncomputable def opt5_21 : Array Oper := opsOf (pick [1, 1, 1, 1, 1, 0] bd5)
noncomputable def kt5_23 : List Item := .code (pick [1, 1, 1, 1, 1, 1, 1] bd5) :: []
noncomputable def pt5_22 : List Item := .code (pick [1, 1, 1, 1, 1, 1, 0] bd5) :: kt5_23
noncomputable def opt5_22 : Array Oper := opsOf (pick [1, 1, 1, 1, 1, 1, 0] bd5)
noncomputable def kt5_24 : List Item := .code (pick [1, 1, 1, 1, 1, 1, 1, 0, 1] bd5) :: kt5_0
noncomputable def pt5_23 : List Item := .code (pick [1, 1, 1, 1, 1, 1, 1, 0, 0] bd5) :: kt5_24
noncomputable def opt5_23 : Array Oper := opsOf (pick [1, 1, 1, 1, 1, 1, 1, 0, 0] bd5)
theorem weekBetween_loop (B : Asn) (A : Option Addr) (l : List Doing) (N c1 : Nat) (hl : l.length = N) (hB : InB B A (l.flatMap encC)) (hA : 0 < N → A = some ⟨blk A, ofs A, none⟩) (hu : ∀ i, i < N → 0 ≤ (l.getD i c0).kind) (f a b : Int) (hf : -2147483648 ≤ f ∧ f ≤ 2147483647) (ha : 0 ≤ a ∧ a ≤ 255) (hb : 0 ≤ b ∧ b ≤ 255) (s c2 : Nat) (S1 : Option Addr) (hg : GoodA (madeL l)) : ∀ (mm i q : Nat) (So : Option Addr) (co : Nat) (acc : List Int), (a + b).toNat - i < mm → i ≤ (a + b).toNat → acc = betL (madeL l) f i → acc.length = q → At ⟨Try.prog, 5, (fun v' => star (fact (v' = .bool true) :: [B])), 95, false⟩ pt5_0 [(2, .int .u8 a), (3, .int .u8 b), (9, .pointer (some ⟨s, 0, none⟩)), (10, .slice S1 ((madeL l).length) c2), (12, .int .i64 f), (13, .slice So q co), (36, .int .i64 (a + b)), (37, .int .i64 (i : Int))] [Grow So co 3 1 q (ints acc), Grow S1 c2 30 4 ((madeL l).length) ((madeL l).flatMap encA), SetC s (madeL l), B] := by
 have hlen := hg.len
 intro mm
 induction mm with
 | zero => intro i q So co acc h; omega
 | succ mm ih =>
  intro i q So co acc hmm hi he hql
  have hq : q ≤ 64 * i := by rw [← hql, he]; exact betL_len hlen f i
  refine At.region (ops := opt5_0) (m := 1) (k' := kt5_3) (by kernel_rfl) 300 (k'' := pt5_1) (by kernel_rfl) ?_
  refine SOps.pures 1 (i' := 1) (m' := 0) (e' := [(38, .bool (decide ((i : Int) < (a + b)))), (2, .int .u8 a), (3, .int .u8 b), (9, .pointer (some ⟨s, 0, none⟩)), (10, .slice S1 ((madeL l).length) c2), (12, .int .i64 f), (13, .slice So q co), (36, .int .i64 (a + b)), (37, .int .i64 (i : Int))]) (by intro u; kernel_rfl) ?_
  refine SOps.nil (.inl rfl) ?_
  refine At.pick [2, 3, 9, 10, 12, 13, 36, 37, 38] (e' := [(2, .int .u8 a), (3, .int .u8 b), (9, .pointer (some ⟨s, 0, none⟩)), (10, .slice S1 ((madeL l).length) c2), (12, .int .i64 f), (13, .slice So q co), (36, .int .i64 (a + b)), (37, .int .i64 (i : Int)), (38, .bool (decide ((i : Int) < (a + b))))]) (by kernel_rfl) ?_
  refine At.split (fun zq => [(2, .int .u8 a), (3, .int .u8 b), (9, .pointer (some ⟨s, 0, none⟩)), (10, .slice S1 ((madeL l).length) c2), (12, .int .i64 f), (13, .slice So q co), (36, .int .i64 (a + b)), (37, .int .i64 (i : Int)), (38, .bool zq)]) (decide ((i : Int) < (a + b))) (fun hx1 => ?_) (fun hx1 => ?_)
  ·have hx1 : (i : Int) < (a + b) := by simpa using hx1
   refine At.cond 300 true (c := .tmp 38) (k1 := pt5_2) (k2 := pt5_3) (by kernel_rfl) (by intro u; kernel_rfl) (fun _ => ?_) (fun h => by cases h)
   refine At.pick [2, 3, 9, 10, 12, 13, 36, 37] (e' := [(2, .int .u8 a), (3, .int .u8 b), (9, .pointer (some ⟨s, 0, none⟩)), (10, .slice S1 ((madeL l).length) c2), (12, .int .i64 f), (13, .slice So q co), (36, .int .i64 (a + b)), (37, .int .i64 (i : Int))]) (by kernel_rfl) ?_
   refine At.region (ops := opt5_2) (m := 2) (k' := kt5_7) (by kernel_rfl) 300 (k'' := pt5_4) (by kernel_rfl) ?_
   refine SOps.pures 2 (i' := 2) (m' := 0) (e' := [(14, .int .i64 (i : Int)), (39, .int .i64 (i : Int)), (2, .int .u8 a), (3, .int .u8 b), (9, .pointer (some ⟨s, 0, none⟩)), (10, .slice S1 ((madeL l).length) c2), (12, .int .i64 f), (13, .slice So q co), (36, .int .i64 (a + b)), (37, .int .i64 (i : Int))]) (by intro u; kernel_rfl) ?_
   refine SOps.nil (.inl rfl) ?_
   refine At.pick [2, 3, 9, 10, 12, 13, 14, 36, 37] (e' := [(2, .int .u8 a), (3, .int .u8 b), (9, .pointer (some ⟨s, 0, none⟩)), (10, .slice S1 ((madeL l).length) c2), (12, .int .i64 f), (13, .slice So q co), (14, .int .i64 (i : Int)), (36, .int .i64 (a + b)), (37, .int .i64 (i : Int))]) (by kernel_rfl) ?_
   have hrl := ringsL_len (madeL l) (f + (i : Int))
   refine At.region (ops := opt5_4) (m := 8) (k' := kt5_6) (by kernel_rfl) 300 (k'' := pt5_5) (by kernel_rfl) ?_
   refine SOps.pures 4 (i' := 4) (m' := 4) (e' := [(43, .int .i64 (i : Int)), (42, .int .i64 f), (41, .slice S1 ((madeL l).length) c2), (40, .slice So q co), (2, .int .u8 a), (3, .int .u8 b), (9, .pointer (some ⟨s, 0, none⟩)), (10, .slice S1 ((madeL l).length) c2), (12, .int .i64 f), (13, .slice So q co), (14, .int .i64 (i : Int)), (36, .int .i64 (a + b)), (37, .int .i64 (i : Int))]) (by intro u; kernel_rfl) ?_
   refine SOps.v (Val.pe 44 (.int .i64 (IntKind.i64.wrap (f + (i : Int)))) (.int .i64 (f + (i : Int))) (by intro u; kernel_rfl) (i64_in rfl (by omega) (by omega))) ?_
   refine SOps.o (Op.callX 45 11 #[.slice S1 ((madeL l).length) c2, .int .i64 (f + (i : Int))] _ _ [1] (B := [Grow S1 c2 30 4 ((madeL l).length) ((madeL l).flatMap encA)]) (D := [Grow So co 3 1 q (ints acc), SetC s (madeL l), B]) (by intro u; kernel_rfl) (lrings S1 c2 (madeL l) hg (f + (i : Int))) (by first | exact .inr rfl | exact .inl rfl) (by kernel_rfl) ?_)
   rintro ⟨Sx2, cx3⟩ -
   refine SOps.o (Op.appS 2 0 46 (sz := 1) (bytes := 8) (ty := 32) el_32 (ints (ringsL (madeL l) (f + (i : Int)))) (ints (acc ++ (ringsL (madeL l) (f + (i : Int))))) (n := q) (q := (ringsL (madeL l) (f + (i : Int))).length) (c := cx3) (r := (q + (ringsL (madeL l) (f + (i : Int))).length)) (by omega) rfl rfl (by intro u; kernel_rfl) (by rw [ints_len] <;> first | omega | (simp only [List.length_cons, List.length_nil]; done) | (simp only [List.length_append, List.length_take, List.length_drop, List.length_cons, List.length_nil, List.length_set]; omega)) SrcOf.all (by simp [ints, oneC]) (by unfold maxLen; omega) (by omega) (by simp [ints]) ?_)
   intro Sx4 cx5
   refine SOps.pures 1 (i' := 8) (m' := 0) (e' := [(13, .slice Sx4 (q + (ringsL (madeL l) (f + (i : Int))).length) cx5), (46, .slice Sx4 (q + (ringsL (madeL l) (f + (i : Int))).length) cx5), (45, .slice Sx2 ((ringsL (madeL l) (f + (i : Int))).length) cx3), (44, .int .i64 (f + (i : Int))), (43, .int .i64 (i : Int)), (42, .int .i64 f), (41, .slice S1 ((madeL l).length) c2), (40, .slice So q co), (2, .int .u8 a), (3, .int .u8 b), (9, .pointer (some ⟨s, 0, none⟩)), (10, .slice S1 ((madeL l).length) c2), (12, .int .i64 f), (13, .slice So q co), (14, .int .i64 (i : Int)), (36, .int .i64 (a + b)), (37, .int .i64 (i : Int))]) (by intro u; kernel_rfl) ?_
   refine SOps.nil (.inl rfl) ?_
   refine At.pick [2, 3, 9, 10, 12, 13, 36, 37] (e' := [(2, .int .u8 a), (3, .int .u8 b), (9, .pointer (some ⟨s, 0, none⟩)), (10, .slice S1 ((madeL l).length) c2), (12, .int .i64 f), (13, .slice Sx4 (q + (ringsL (madeL l) (f + (i : Int))).length) cx5), (36, .int .i64 (a + b)), (37, .int .i64 (i : Int))]) (by kernel_rfl) ?_
   refine At.region (ops := opt5_5) (m := 2) (k' := kt5_2) (by kernel_rfl) 300 (k'' := pt5_0) (by kernel_rfl) ?_
   refine SOps.v (Val.pe 47 (.int .i64 (IntKind.i64.wrap ((i : Int) + 1))) (.int .i64 ((i + 1 : Nat) : Int)) (by intro u; kernel_rfl) (i64_in (by omega) (by omega) (by omega))) ?_
   refine SOps.pures 1 (i' := 2) (m' := 0) (e' := [(37, .int .i64 ((i + 1 : Nat) : Int)), (47, .int .i64 ((i + 1 : Nat) : Int)), (2, .int .u8 a), (3, .int .u8 b), (9, .pointer (some ⟨s, 0, none⟩)), (10, .slice S1 ((madeL l).length) c2), (12, .int .i64 f), (13, .slice Sx4 (q + (ringsL (madeL l) (f + (i : Int))).length) cx5), (36, .int .i64 (a + b)), (37, .int .i64 (i : Int))]) (by intro u; kernel_rfl) ?_
   refine SOps.nil (.inl rfl) ?_
   refine At.pick [2, 3, 9, 10, 12, 13, 36, 37] (e' := [(2, .int .u8 a), (3, .int .u8 b), (9, .pointer (some ⟨s, 0, none⟩)), (10, .slice S1 ((madeL l).length) c2), (12, .int .i64 f), (13, .slice Sx4 (q + (ringsL (madeL l) (f + (i : Int))).length) cx5), (36, .int .i64 (a + b)), (37, .int .i64 ((i + 1 : Nat) : Int))]) (by kernel_rfl) ?_
   refine At.keep [2, 1, 1, 1] (B := [Grow Sx4 cx5 3 1 (q + (ringsL (madeL l) (f + (i : Int))).length) (ints (acc ++ (ringsL (madeL l) (f + (i : Int))))), Grow S1 c2 30 4 ((madeL l).length) ((madeL l).flatMap encA), SetC s (madeL l), B]) (D := [Grow Sx2 cx3 3 1 ((ringsL (madeL l) (f + (i : Int))).length) (ints (ringsL (madeL l) (f + (i : Int))))]) rfl ?_
   exact ih (i + 1) _ Sx4 cx5 _ (by omega) (by omega) (by rw [he]; exact betL_step (madeL l) f i) (by simp; omega)
  ·have hx1 : (i : Int) ≥ (a + b) := by simpa using hx1
   refine At.cond 300 false (c := .tmp 38) (k1 := pt5_2) (k2 := pt5_3) (by kernel_rfl) (by intro u; kernel_rfl) (fun h => by cases h) (fun _ => ?_)
   refine At.pick [2, 3, 9, 12, 13] (e' := [(2, .int .u8 a), (3, .int .u8 b), (9, .pointer (some ⟨s, 0, none⟩)), (12, .int .i64 f), (13, .slice So q co)]) (by kernel_rfl) ?_
   obtain rfl : i = (a + b).toNat := by omega
   subst he
   have hsum : betL (madeL l) f a.toNat ++ betL (madeL l) (f + a) b.toNat = betL (madeL l) f (a + b).toNat := by rw [show (a + b).toNat = a.toNat + b.toNat by omega, betL_add, show (a.toNat : Int) = a by omega]
   refine At.region (ops := opt5_3) (m := 11) (k' := kt5_8) (by kernel_rfl) 300 (k'' := pt5_6) (by kernel_rfl) ?_
   refine SOps.pures 4 (i' := 4) (m' := 7) (e' := [(51, .int .u8 a), (50, .int .i64 f), (49, .int .i64 f), (48, .pointer (some ⟨s, 0, none⟩)), (2, .int .u8 a), (3, .int .u8 b), (9, .pointer (some ⟨s, 0, none⟩)), (12, .int .i64 f), (13, .slice So q co)]) (by intro u; kernel_rfl) ?_
   refine SOps.v (Val.pe 52 (.int .i64 (IntKind.i64.wrap a)) (.int .i64 a) (by intro u; kernel_rfl) (i64_in rfl (by omega) (by omega))) ?_
   refine SOps.v (Val.pe 53 (.int .i64 (IntKind.i64.wrap (f + a))) (.int .i64 (f + a)) (by intro u; kernel_rfl) (i64_in rfl (by omega) (by omega))) ?_
   refine SOps.pures 1 (i' := 7) (m' := 4) (e' := [(54, .int .u8 b), (53, .int .i64 (f + a)), (52, .int .i64 a), (51, .int .u8 a), (50, .int .i64 f), (49, .int .i64 f), (48, .pointer (some ⟨s, 0, none⟩)), (2, .int .u8 a), (3, .int .u8 b), (9, .pointer (some ⟨s, 0, none⟩)), (12, .int .i64 f), (13, .slice So q co)]) (by intro u; kernel_rfl) ?_
   refine SOps.v (Val.pe 55 (.int .i64 (IntKind.i64.wrap b)) (.int .i64 b) (by intro u; kernel_rfl) (i64_in rfl (by omega) (by omega))) ?_
   refine SOps.v (Val.pe 56 (.int .i64 (IntKind.i64.wrap ((f + a) + b))) (.int .i64 ((f + a) + b)) (by intro u; kernel_rfl) (i64_in rfl (by omega) (by omega))) ?_
   refine SOps.o (Op.callX 57 13 #[.pointer (some ⟨s, 0, none⟩), .int .i64 f, .int .i64 ((f + a) + b)] _ _ [2] (B := [SetC s (madeL l)]) (D := [Grow So co 3 1 q (ints (betL (madeL l) f (a + b).toNat)), Grow S1 c2 30 4 ((madeL l).length) ((madeL l).flatMap encA), B]) (by intro u; kernel_rfl) (betweenS s (madeL l) hg f ((f + a) + b) (a + b).toNat (by omega) (by omega) (by omega)) (by first | exact .inr rfl | exact .inl rfl) (by kernel_rfl) ?_)
   rintro ⟨Sx2, cx3⟩ -
   have hblcx3 := betL_len hlen f (a + b).toNat
   refine SOps.pures 1 (i' := 11) (m' := 0) (e' := [(15, .slice Sx2 ((betL (madeL l) f (a + b).toNat).length) cx3), (57, .slice Sx2 ((betL (madeL l) f (a + b).toNat).length) cx3), (56, .int .i64 ((f + a) + b)), (55, .int .i64 b), (54, .int .u8 b), (53, .int .i64 (f + a)), (52, .int .i64 a), (51, .int .u8 a), (50, .int .i64 f), (49, .int .i64 f), (48, .pointer (some ⟨s, 0, none⟩)), (2, .int .u8 a), (3, .int .u8 b), (9, .pointer (some ⟨s, 0, none⟩)), (12, .int .i64 f), (13, .slice So q co)]) (by intro u; kernel_rfl) ?_
   refine SOps.nil (.inl rfl) ?_
   refine At.pick [2, 3, 9, 12, 13, 15] (e' := [(2, .int .u8 a), (3, .int .u8 b), (9, .pointer (some ⟨s, 0, none⟩)), (12, .int .i64 f), (13, .slice So q co), (15, .slice Sx2 ((betL (madeL l) f (a + b).toNat).length) cx3)]) (by kernel_rfl) ?_
   refine At.region (ops := opt5_6) (m := 22) (k' := kt5_9) (by kernel_rfl) 300 (k'' := pt5_7) (by kernel_rfl) ?_
   refine SOps.pures 4 (i' := 4) (m' := 18) (e' := [(61, .int .u8 a), (60, .int .i64 f), (59, .int .i64 f), (58, .pointer (some ⟨s, 0, none⟩)), (2, .int .u8 a), (3, .int .u8 b), (9, .pointer (some ⟨s, 0, none⟩)), (12, .int .i64 f), (13, .slice So q co), (15, .slice Sx2 ((betL (madeL l) f (a + b).toNat).length) cx3)]) (by intro u; kernel_rfl) ?_
   refine SOps.v (Val.pe 62 (.int .i64 (IntKind.i64.wrap a)) (.int .i64 a) (by intro u; kernel_rfl) (i64_in rfl (by omega) (by omega))) ?_
   refine SOps.v (Val.pe 63 (.int .i64 (IntKind.i64.wrap (f + a))) (.int .i64 (f + a)) (by intro u; kernel_rfl) (i64_in rfl (by omega) (by omega))) ?_
   refine SOps.o (Op.callX 64 13 #[.pointer (some ⟨s, 0, none⟩), .int .i64 f, .int .i64 (f + a)] _ _ [1] (B := [SetC s (madeL l)]) (D := [Grow Sx2 cx3 3 1 ((betL (madeL l) f (a + b).toNat).length) (ints (betL (madeL l) f (a + b).toNat)), Grow So co 3 1 q (ints (betL (madeL l) f (a + b).toNat)), Grow S1 c2 30 4 ((madeL l).length) ((madeL l).flatMap encA), B]) (by intro u; kernel_rfl) (betweenS s (madeL l) hg f (f + a) a.toNat (by omega) (by omega) (by omega)) (by first | exact .inr rfl | exact .inl rfl) (by kernel_rfl) ?_)
   rintro ⟨Sx4, cx5⟩ -
   have hblcx5 := betL_len hlen f a.toNat
   refine SOps.pures 3 (i' := 10) (m' := 12) (e' := [(67, .int .u8 a), (66, .int .i64 f), (65, .pointer (some ⟨s, 0, none⟩)), (64, .slice Sx4 ((betL (madeL l) f a.toNat).length) cx5), (63, .int .i64 (f + a)), (62, .int .i64 a), (61, .int .u8 a), (60, .int .i64 f), (59, .int .i64 f), (58, .pointer (some ⟨s, 0, none⟩)), (2, .int .u8 a), (3, .int .u8 b), (9, .pointer (some ⟨s, 0, none⟩)), (12, .int .i64 f), (13, .slice So q co), (15, .slice Sx2 ((betL (madeL l) f (a + b).toNat).length) cx3)]) (by intro u; kernel_rfl) ?_
   refine SOps.v (Val.pe 68 (.int .i64 (IntKind.i64.wrap a)) (.int .i64 a) (by intro u; kernel_rfl) (i64_in rfl (by omega) (by omega))) ?_
   refine SOps.v (Val.pe 69 (.int .i64 (IntKind.i64.wrap (f + a))) (.int .i64 (f + a)) (by intro u; kernel_rfl) (i64_in rfl (by omega) (by omega))) ?_
   refine SOps.pures 2 (i' := 14) (m' := 8) (e' := [(71, .int .u8 a), (70, .int .i64 f), (69, .int .i64 (f + a)), (68, .int .i64 a), (67, .int .u8 a), (66, .int .i64 f), (65, .pointer (some ⟨s, 0, none⟩)), (64, .slice Sx4 ((betL (madeL l) f a.toNat).length) cx5), (63, .int .i64 (f + a)), (62, .int .i64 a), (61, .int .u8 a), (60, .int .i64 f), (59, .int .i64 f), (58, .pointer (some ⟨s, 0, none⟩)), (2, .int .u8 a), (3, .int .u8 b), (9, .pointer (some ⟨s, 0, none⟩)), (12, .int .i64 f), (13, .slice So q co), (15, .slice Sx2 ((betL (madeL l) f (a + b).toNat).length) cx3)]) (by intro u; kernel_rfl) ?_
   refine SOps.v (Val.pe 72 (.int .i64 (IntKind.i64.wrap a)) (.int .i64 a) (by intro u; kernel_rfl) (i64_in rfl (by omega) (by omega))) ?_
   refine SOps.v (Val.pe 73 (.int .i64 (IntKind.i64.wrap (f + a))) (.int .i64 (f + a)) (by intro u; kernel_rfl) (i64_in rfl (by omega) (by omega))) ?_
   refine SOps.pures 1 (i' := 17) (m' := 5) (e' := [(74, .int .u8 b), (73, .int .i64 (f + a)), (72, .int .i64 a), (71, .int .u8 a), (70, .int .i64 f), (69, .int .i64 (f + a)), (68, .int .i64 a), (67, .int .u8 a), (66, .int .i64 f), (65, .pointer (some ⟨s, 0, none⟩)), (64, .slice Sx4 ((betL (madeL l) f a.toNat).length) cx5), (63, .int .i64 (f + a)), (62, .int .i64 a), (61, .int .u8 a), (60, .int .i64 f), (59, .int .i64 f), (58, .pointer (some ⟨s, 0, none⟩)), (2, .int .u8 a), (3, .int .u8 b), (9, .pointer (some ⟨s, 0, none⟩)), (12, .int .i64 f), (13, .slice So q co), (15, .slice Sx2 ((betL (madeL l) f (a + b).toNat).length) cx3)]) (by intro u; kernel_rfl) ?_
   refine SOps.v (Val.pe 75 (.int .i64 (IntKind.i64.wrap b)) (.int .i64 b) (by intro u; kernel_rfl) (i64_in rfl (by omega) (by omega))) ?_
   refine SOps.v (Val.pe 76 (.int .i64 (IntKind.i64.wrap ((f + a) + b))) (.int .i64 ((f + a) + b)) (by intro u; kernel_rfl) (i64_in rfl (by omega) (by omega))) ?_
   refine SOps.o (Op.callX 77 13 #[.pointer (some ⟨s, 0, none⟩), .int .i64 (f + a), .int .i64 ((f + a) + b)] _ _ [1] (B := [SetC s (madeL l)]) (D := [Grow Sx4 cx5 3 1 ((betL (madeL l) f a.toNat).length) (ints (betL (madeL l) f a.toNat)), Grow Sx2 cx3 3 1 ((betL (madeL l) f (a + b).toNat).length) (ints (betL (madeL l) f (a + b).toNat)), Grow So co 3 1 q (ints (betL (madeL l) f (a + b).toNat)), Grow S1 c2 30 4 ((madeL l).length) ((madeL l).flatMap encA), B]) (by intro u; kernel_rfl) (betweenS s (madeL l) hg (f + a) ((f + a) + b) b.toNat (by omega) (by omega) (by omega)) (by first | exact .inr rfl | exact .inl rfl) (by kernel_rfl) ?_)
   rintro ⟨Sx6, cx7⟩ -
   have hblcx7 := betL_len hlen (f + a) b.toNat
   refine SOps.o (Op.appS 2 0 78 (sz := 1) (bytes := 8) (ty := 32) el_32 (ints (betL (madeL l) (f + a) b.toNat)) (ints ((betL (madeL l) f a.toNat) ++ (betL (madeL l) (f + a) b.toNat))) (n := (betL (madeL l) f a.toNat).length) (q := (betL (madeL l) (f + a) b.toNat).length) (c := cx7) (r := (((betL (madeL l) f a.toNat).length) + (betL (madeL l) (f + a) b.toNat).length)) (by omega) rfl rfl (by intro u; kernel_rfl) (by rw [ints_len] <;> first | omega | (simp only [List.length_cons, List.length_nil]; done) | (simp only [List.length_append, List.length_take, List.length_drop, List.length_cons, List.length_nil, List.length_set]; omega)) SrcOf.all (by simp [ints, oneC]) (by unfold maxLen; omega) (by omega) (by simp [ints]) ?_)
   intro Sx8 cx9
   refine SOps.pures 1 (i' := 22) (m' := 0) (e' := [(16, .slice Sx8 (((betL (madeL l) f a.toNat).length) + (betL (madeL l) (f + a) b.toNat).length) cx9), (78, .slice Sx8 (((betL (madeL l) f a.toNat).length) + (betL (madeL l) (f + a) b.toNat).length) cx9), (77, .slice Sx6 ((betL (madeL l) (f + a) b.toNat).length) cx7), (76, .int .i64 ((f + a) + b)), (75, .int .i64 b), (74, .int .u8 b), (73, .int .i64 (f + a)), (72, .int .i64 a), (71, .int .u8 a), (70, .int .i64 f), (69, .int .i64 (f + a)), (68, .int .i64 a), (67, .int .u8 a), (66, .int .i64 f), (65, .pointer (some ⟨s, 0, none⟩)), (64, .slice Sx4 ((betL (madeL l) f a.toNat).length) cx5), (63, .int .i64 (f + a)), (62, .int .i64 a), (61, .int .u8 a), (60, .int .i64 f), (59, .int .i64 f), (58, .pointer (some ⟨s, 0, none⟩)), (2, .int .u8 a), (3, .int .u8 b), (9, .pointer (some ⟨s, 0, none⟩)), (12, .int .i64 f), (13, .slice So q co), (15, .slice Sx2 ((betL (madeL l) f (a + b).toNat).length) cx3)]) (by intro u; kernel_rfl) ?_
   refine SOps.nil (.inl rfl) ?_
   refine At.pick [9, 12, 13, 15, 16] (e' := [(9, .pointer (some ⟨s, 0, none⟩)), (12, .int .i64 f), (13, .slice So q co), (15, .slice Sx2 ((betL (madeL l) f (a + b).toNat).length) cx3), (16, .slice Sx8 (((betL (madeL l) f a.toNat).length) + (betL (madeL l) (f + a) b.toNat).length) cx9)]) (by kernel_rfl) ?_
   refine At.region (ops := opt5_7) (m := 17) (k' := kt5_10) (by kernel_rfl) 300 (k'' := pt5_8) (by kernel_rfl) ?_
   refine SOps.pures 2 (i' := 2) (m' := 15) (e' := [(80, .slice So q co), (79, .slice Sx2 ((betL (madeL l) f (a + b).toNat).length) cx3), (9, .pointer (some ⟨s, 0, none⟩)), (12, .int .i64 f), (13, .slice So q co), (15, .slice Sx2 ((betL (madeL l) f (a + b).toNat).length) cx3), (16, .slice Sx8 (((betL (madeL l) f a.toNat).length) + (betL (madeL l) (f + a) b.toNat).length) cx9)]) (by intro u; kernel_rfl) ?_
   have hc := same Sx2 So ((betL (madeL l) f (a + b).toNat).length) q cx3 co (betL (madeL l) f (a + b).toNat) (betL (madeL l) f (a + b).toNat) (by first | rfl | assumption | simp) (by first | rfl | assumption | simp) (by omega)
   rw [show decide ((betL (madeL l) f (a + b).toNat) = (betL (madeL l) f (a + b).toNat)) = true from decide_eq_true (by first | rfl | exact hsum)] at hc
   refine SOps.o (Op.callS 81 9 #[.slice Sx2 ((betL (madeL l) f (a + b).toNat).length) cx3, .slice So q co] (.bool true) [3, 3] (B := [Grow Sx2 cx3 3 1 ((betL (madeL l) f (a + b).toNat).length) (ints (betL (madeL l) f (a + b).toNat)), Grow So co 3 1 q (ints (betL (madeL l) f (a + b).toNat))]) (D := [Grow Sx6 cx7 3 1 ((betL (madeL l) (f + a) b.toNat).length) (ints (betL (madeL l) (f + a) b.toNat)), SetC s (madeL l), Grow Sx8 cx9 3 1 (((betL (madeL l) f a.toNat).length) + (betL (madeL l) (f + a) b.toNat).length) (ints ((betL (madeL l) f a.toNat) ++ (betL (madeL l) (f + a) b.toNat))), Grow S1 c2 30 4 ((madeL l).length) ((madeL l).flatMap encA), B]) (by intro u; kernel_rfl) (hc) (by first | exact .inr rfl | exact .inl rfl) (by kernel_rfl) ?_)
   refine SOps.pures 3 (i' := 6) (m' := 11) (e' := [(84, .slice So q co), (83, .slice Sx8 (((betL (madeL l) f a.toNat).length) + (betL (madeL l) (f + a) b.toNat).length) cx9), (82, .bool true), (81, .bool true), (80, .slice So q co), (79, .slice Sx2 ((betL (madeL l) f (a + b).toNat).length) cx3), (9, .pointer (some ⟨s, 0, none⟩)), (12, .int .i64 f), (13, .slice So q co), (15, .slice Sx2 ((betL (madeL l) f (a + b).toNat).length) cx3), (16, .slice Sx8 (((betL (madeL l) f a.toNat).length) + (betL (madeL l) (f + a) b.toNat).length) cx9)]) (by intro u; kernel_rfl) ?_
   have hc := same Sx8 So (((betL (madeL l) f a.toNat).length) + (betL (madeL l) (f + a) b.toNat).length) q cx9 co ((betL (madeL l) f a.toNat) ++ (betL (madeL l) (f + a) b.toNat)) (betL (madeL l) f (a + b).toNat) (by first | rfl | assumption | simp) (by first | rfl | assumption | simp) (by omega)
   rw [show decide (((betL (madeL l) f a.toNat) ++ (betL (madeL l) (f + a) b.toNat)) = (betL (madeL l) f (a + b).toNat)) = true from decide_eq_true (by first | rfl | exact hsum)] at hc
   refine SOps.o (Op.callS 85 9 #[.slice Sx8 (((betL (madeL l) f a.toNat).length) + (betL (madeL l) (f + a) b.toNat).length) cx9, .slice So q co] (.bool true) [4, 1] (B := [Grow Sx8 cx9 3 1 (((betL (madeL l) f a.toNat).length) + (betL (madeL l) (f + a) b.toNat).length) (ints ((betL (madeL l) f a.toNat) ++ (betL (madeL l) (f + a) b.toNat))), Grow So co 3 1 q (ints (betL (madeL l) f (a + b).toNat))]) (D := [Grow Sx2 cx3 3 1 ((betL (madeL l) f (a + b).toNat).length) (ints (betL (madeL l) f (a + b).toNat)), Grow Sx6 cx7 3 1 ((betL (madeL l) (f + a) b.toNat).length) (ints (betL (madeL l) (f + a) b.toNat)), SetC s (madeL l), Grow S1 c2 30 4 ((madeL l).length) ((madeL l).flatMap encA), B]) (by intro u; kernel_rfl) (hc) (by first | exact .inr rfl | exact .inl rfl) (by kernel_rfl) ?_)
   refine SOps.pures 5 (i' := 12) (m' := 5) (e' := [(90, .int .i64 f), (89, .int .i64 f), (88, .pointer (some ⟨s, 0, none⟩)), (87, .bool true), (86, .bool true), (85, .bool true), (84, .slice So q co), (83, .slice Sx8 (((betL (madeL l) f a.toNat).length) + (betL (madeL l) (f + a) b.toNat).length) cx9), (82, .bool true), (81, .bool true), (80, .slice So q co), (79, .slice Sx2 ((betL (madeL l) f (a + b).toNat).length) cx3), (9, .pointer (some ⟨s, 0, none⟩)), (12, .int .i64 f), (13, .slice So q co), (15, .slice Sx2 ((betL (madeL l) f (a + b).toNat).length) cx3), (16, .slice Sx8 (((betL (madeL l) f a.toNat).length) + (betL (madeL l) (f + a) b.toNat).length) cx9)]) (by intro u; kernel_rfl) ?_
   refine SOps.o (Op.callX 91 13 #[.pointer (some ⟨s, 0, none⟩), .int .i64 f, .int .i64 f] _ _ [4] (B := [SetC s (madeL l)]) (D := [Grow Sx8 cx9 3 1 (((betL (madeL l) f a.toNat).length) + (betL (madeL l) (f + a) b.toNat).length) (ints ((betL (madeL l) f a.toNat) ++ (betL (madeL l) (f + a) b.toNat))), Grow So co 3 1 q (ints (betL (madeL l) f (a + b).toNat)), Grow Sx2 cx3 3 1 ((betL (madeL l) f (a + b).toNat).length) (ints (betL (madeL l) f (a + b).toNat)), Grow Sx6 cx7 3 1 ((betL (madeL l) (f + a) b.toNat).length) (ints (betL (madeL l) (f + a) b.toNat)), Grow S1 c2 30 4 ((madeL l).length) ((madeL l).flatMap encA), B]) (by intro u; kernel_rfl) (betweenS s (madeL l) hg f f 0 (by omega) (by omega) (by omega)) (by first | exact .inr rfl | exact .inl rfl) (by kernel_rfl) ?_)
   rintro ⟨Sx10, cx11⟩ -
   refine SOps.pures 4 (i' := 17) (m' := 0) (e' := [(8, .bool true), (94, .bool true), (93, .bool true), (92, .int .i64 0), (91, .slice Sx10 0 cx11), (90, .int .i64 f), (89, .int .i64 f), (88, .pointer (some ⟨s, 0, none⟩)), (87, .bool true), (86, .bool true), (85, .bool true), (84, .slice So q co), (83, .slice Sx8 (((betL (madeL l) f a.toNat).length) + (betL (madeL l) (f + a) b.toNat).length) cx9), (82, .bool true), (81, .bool true), (80, .slice So q co), (79, .slice Sx2 ((betL (madeL l) f (a + b).toNat).length) cx3), (9, .pointer (some ⟨s, 0, none⟩)), (12, .int .i64 f), (13, .slice So q co), (15, .slice Sx2 ((betL (madeL l) f (a + b).toNat).length) cx3), (16, .slice Sx8 (((betL (madeL l) f a.toNat).length) + (betL (madeL l) (f + a) b.toNat).length) cx9)]) (by intro u; kernel_rfl) ?_
   refine SOps.nil (.inl rfl) ?_
   refine At.pick [8] (e' := [(8, .bool true)]) (by kernel_rfl) ?_
   refine At.ret1 (fn := Try.f5) (v := .bool true) (t := 8) (by kernel_rfl) Try.func5 (by kernel_rfl) (by kernel_rfl) (fun F w ho => ?_)
   exact shutV rfl [7] rfl ho
theorem weekBetween (B : Asn) (A : Option Addr) (l : List Doing) (N c1 : Nat) (hl : l.length = N) (hB : InB B A (l.flatMap encC)) (hA : 0 < N → A = some ⟨blk A, ofs A, none⟩) (hu : ∀ i, i < N → 0 ≤ (l.getD i c0).kind) (f a b : Int) (hf : -2147483648 ≤ f ∧ f ≤ 2147483647) (ha : 0 ≤ a ∧ a ≤ 255) (hb : 0 ≤ b ∧ b ≤ 255) : Ctr Try.prog 5 #[.slice A N c1, .int .i32 f, .int .u8 a, .int .u8 b] [B] (fun v' => star (fact (v' = .bool true) :: [B])) false := by
 refine spec_of_at (fn := Try.f5) (c := bd5) (args := [.slice A N c1, .int .i32 f, .int .u8 a, .int .u8 b]) (n := 95) (e := [(0, .slice A N c1), (1, .int .i32 f), (2, .int .u8 a), (3, .int .u8 b)]) (k := pt5_9) Try.func5 (by kernel_rfl) (by kernel_rfl) (by kernel_rfl) (by kernel_rfl) 300 (by kernel_rfl) ?_
 refine At.region (ops := opt5_9) (m := 1) (k' := kt5_11) (by kernel_rfl) 300 (k'' := pt5_10) (by kernel_rfl) ?_
 refine SOps.pures 1 (i' := 1) (m' := 0) (e' := [(8, .bool false), (0, .slice A N c1), (1, .int .i32 f), (2, .int .u8 a), (3, .int .u8 b)]) (by intro u; kernel_rfl) ?_
 refine SOps.nil (.inl rfl) ?_
 refine At.pick [0, 1, 2, 3] (e' := [(0, .slice A N c1), (1, .int .i32 f), (2, .int .u8 a), (3, .int .u8 b)]) (by kernel_rfl) ?_
 refine At.region (ops := opt5_10) (m := 2) (k' := kt5_13) (by kernel_rfl) 300 (k'' := pt5_11) (by kernel_rfl) ?_
 refine SOps.o (Op.callS 17 6 #[] (.bool true) [] (B := []) (D := [B]) (by intro u; kernel_rfl) (fixedW ) (by first | exact .inr rfl | exact .inl rfl) (by kernel_rfl) ?_)
 refine SOps.pures 1 (i' := 2) (m' := 0) (e' := [(18, .bool false), (17, .bool true), (0, .slice A N c1), (1, .int .i32 f), (2, .int .u8 a), (3, .int .u8 b)]) (by intro u; kernel_rfl) ?_
 refine SOps.nil (.inl rfl) ?_
 refine At.pick [0, 1, 2, 3, 18] (e' := [(0, .slice A N c1), (1, .int .i32 f), (2, .int .u8 a), (3, .int .u8 b), (18, .bool false)]) (by kernel_rfl) ?_
 refine At.cond 300 false (c := .tmp 18) (k1 := pt5_12) (k2 := pt5_13) (by kernel_rfl) (by intro u; kernel_rfl) (fun h => by cases h) (fun _ => ?_)
 refine At.pick [0, 1, 2, 3] (e' := [(0, .slice A N c1), (1, .int .i32 f), (2, .int .u8 a), (3, .int .u8 b)]) (by kernel_rfl) ?_
 refine At.region (ops := opt5_13) (m := 3) (k' := kt5_16) (by kernel_rfl) 300 (k'' := pt5_14) (by kernel_rfl) ?_
 refine SOps.pures 3 (i' := 3) (m' := 0) (e' := [(21, .bool (decide ((N : Int) > 60))), (20, .int .i64 (N : Int)), (19, .slice A N c1), (0, .slice A N c1), (1, .int .i32 f), (2, .int .u8 a), (3, .int .u8 b)]) (by intro u; kernel_rfl) ?_
 refine SOps.nil (.inl rfl) ?_
 refine At.pick [0, 1, 2, 3, 21] (e' := [(0, .slice A N c1), (1, .int .i32 f), (2, .int .u8 a), (3, .int .u8 b), (21, .bool (decide ((N : Int) > 60)))]) (by kernel_rfl) ?_
 refine At.split (fun zq => [(0, .slice A N c1), (1, .int .i32 f), (2, .int .u8 a), (3, .int .u8 b), (21, .bool zq)]) (decide ((N : Int) > 60)) (fun hx1 => ?_) (fun hx1 => ?_)
 ·have hx1 : (N : Int) > 60 := by simpa using hx1
  refine At.cond 300 true (c := .tmp 21) (k1 := pt5_15) (k2 := pt5_16) (by kernel_rfl) (by intro u; kernel_rfl) (fun _ => ?_) (fun h => by cases h)
  refine At.pick [] (e' := []) (by kernel_rfl) ?_
  refine At.region (ops := opt5_15) (m := 1) (k' := kt5_17) (by kernel_rfl) 300 (k'' := pt5_17) (by kernel_rfl) ?_
  refine SOps.pures 1 (i' := 1) (m' := 0) (e' := [(8, .bool true)]) (by intro u; kernel_rfl) ?_
  refine SOps.nil (.inl rfl) ?_
  refine At.ret1 (fn := Try.f5) (v := .bool true) (t := 8) (by kernel_rfl) Try.func5 (by kernel_rfl) (by kernel_rfl) (fun F w ho => ?_)
  exact shutV rfl [0] rfl ho
 ·have hx1 : (N : Int) ≤ 60 := by simpa using hx1
  refine At.cond 300 false (c := .tmp 21) (k1 := pt5_15) (k2 := pt5_16) (by kernel_rfl) (by intro u; kernel_rfl) (fun h => by cases h) (fun _ => ?_)
  refine At.pick [0, 1, 2, 3] (e' := [(0, .slice A N c1), (1, .int .i32 f), (2, .int .u8 a), (3, .int .u8 b)]) (by kernel_rfl) ?_
  refine At.region (ops := opt5_16) (m := 9) (k' := kt5_18) (by kernel_rfl) 300 (k'' := pt5_18) (by kernel_rfl) ?_
  refine SOps.pures 1 (i' := 1) (m' := 8) (e' := [(23, .slice A N c1), (0, .slice A N c1), (1, .int .i32 f), (2, .int .u8 a), (3, .int .u8 b)]) (by intro u; kernel_rfl) ?_
  have hg : GoodA (madeL l) := by have := madeL_good l N; rwa [List.take_of_length_le (by omega)] at this
  have hlen := hg.len
  refine SOps.o (Op.callX 24 7 #[.slice A N c1] _ _ [0] (B := [B]) (D := []) (by intro u; kernel_rfl) (madeS B A l N c1 hl hB hA (by omega) hu) (by first | exact .inr rfl | exact .inl rfl) (by kernel_rfl) ?_)
  rintro ⟨sx2, Sx3, cx4⟩ -
  refine SOps.pures 7 (i' := 9) (m' := 0) (e' := [(11, .bool true), (10, .slice Sx3 ((madeL l).length) cx4), (9, .pointer (some ⟨sx2, 0, none⟩)), (27, .bool true), (26, .slice Sx3 ((madeL l).length) cx4), (25, .pointer (some ⟨sx2, 0, none⟩)), (22, .tuple #[.pointer (some ⟨sx2, 0, none⟩), .slice Sx3 ((madeL l).length) cx4, .bool true]), (24, .tuple #[.pointer (some ⟨sx2, 0, none⟩), .slice Sx3 ((madeL l).length) cx4, .bool true]), (23, .slice A N c1), (0, .slice A N c1), (1, .int .i32 f), (2, .int .u8 a), (3, .int .u8 b)]) (by intro u; kernel_rfl) ?_
  refine SOps.nil (.inl rfl) ?_
  refine At.pick [1, 2, 3, 9, 10, 11] (e' := [(1, .int .i32 f), (2, .int .u8 a), (3, .int .u8 b), (9, .pointer (some ⟨sx2, 0, none⟩)), (10, .slice Sx3 ((madeL l).length) cx4), (11, .bool true)]) (by kernel_rfl) ?_
  refine At.region (ops := opt5_18) (m := 2) (k' := kt5_20) (by kernel_rfl) 300 (k'' := pt5_19) (by kernel_rfl) ?_
  refine SOps.pures 2 (i' := 2) (m' := 0) (e' := [(29, .bool false), (28, .bool true), (1, .int .i32 f), (2, .int .u8 a), (3, .int .u8 b), (9, .pointer (some ⟨sx2, 0, none⟩)), (10, .slice Sx3 ((madeL l).length) cx4), (11, .bool true)]) (by intro u; kernel_rfl) ?_
  refine SOps.nil (.inl rfl) ?_
  refine At.pick [1, 2, 3, 9, 10, 29] (e' := [(1, .int .i32 f), (2, .int .u8 a), (3, .int .u8 b), (9, .pointer (some ⟨sx2, 0, none⟩)), (10, .slice Sx3 ((madeL l).length) cx4), (29, .bool false)]) (by kernel_rfl) ?_
  refine At.cond 300 false (c := .tmp 29) (k1 := pt5_20) (k2 := pt5_21) (by kernel_rfl) (by intro u; kernel_rfl) (fun h => by cases h) (fun _ => ?_)
  refine At.pick [1, 2, 3, 9, 10] (e' := [(1, .int .i32 f), (2, .int .u8 a), (3, .int .u8 b), (9, .pointer (some ⟨sx2, 0, none⟩)), (10, .slice Sx3 ((madeL l).length) cx4)]) (by kernel_rfl) ?_
  refine At.region (ops := opt5_21) (m := 3) (k' := kt5_22) (by kernel_rfl) 300 (k'' := pt5_22) (by kernel_rfl) ?_
  refine SOps.pures 1 (i' := 1) (m' := 2) (e' := [(30, .int .i32 f), (1, .int .i32 f), (2, .int .u8 a), (3, .int .u8 b), (9, .pointer (some ⟨sx2, 0, none⟩)), (10, .slice Sx3 ((madeL l).length) cx4)]) (by intro u; kernel_rfl) ?_
  refine SOps.v (Val.pe 31 (.int .i64 (IntKind.i64.wrap f)) (.int .i64 f) (by intro u; kernel_rfl) (i64_in rfl (by omega) (by omega))) ?_
  refine SOps.pures 1 (i' := 3) (m' := 0) (e' := [(12, .int .i64 f), (31, .int .i64 f), (30, .int .i32 f), (1, .int .i32 f), (2, .int .u8 a), (3, .int .u8 b), (9, .pointer (some ⟨sx2, 0, none⟩)), (10, .slice Sx3 ((madeL l).length) cx4)]) (by intro u; kernel_rfl) ?_
  refine SOps.nil (.inl rfl) ?_
  refine At.pick [2, 3, 9, 10, 12] (e' := [(2, .int .u8 a), (3, .int .u8 b), (9, .pointer (some ⟨sx2, 0, none⟩)), (10, .slice Sx3 ((madeL l).length) cx4), (12, .int .i64 f)]) (by kernel_rfl) ?_
  refine At.region (ops := opt5_22) (m := 1) (k' := kt5_23) (by kernel_rfl) 300 (k'' := pt5_23) (by kernel_rfl) ?_
  refine SOps.pures 1 (i' := 1) (m' := 0) (e' := [(13, .slice none 0 0), (2, .int .u8 a), (3, .int .u8 b), (9, .pointer (some ⟨sx2, 0, none⟩)), (10, .slice Sx3 ((madeL l).length) cx4), (12, .int .i64 f)]) (by intro u; kernel_rfl) ?_
  refine SOps.nil (.inl rfl) ?_
  refine At.pick [2, 3, 9, 10, 12, 13] (e' := [(2, .int .u8 a), (3, .int .u8 b), (9, .pointer (some ⟨sx2, 0, none⟩)), (10, .slice Sx3 ((madeL l).length) cx4), (12, .int .i64 f), (13, .slice none 0 0)]) (by kernel_rfl) ?_
  refine At.region (ops := opt5_23) (m := 6) (k' := kt5_24) (by kernel_rfl) 300 (k'' := pt5_0) (by kernel_rfl) ?_
  refine SOps.pures 1 (i' := 1) (m' := 5) (e' := [(32, .int .u8 a), (2, .int .u8 a), (3, .int .u8 b), (9, .pointer (some ⟨sx2, 0, none⟩)), (10, .slice Sx3 ((madeL l).length) cx4), (12, .int .i64 f), (13, .slice none 0 0)]) (by intro u; kernel_rfl) ?_
  refine SOps.v (Val.pe 33 (.int .i64 (IntKind.i64.wrap a)) (.int .i64 a) (by intro u; kernel_rfl) (i64_in rfl (by omega) (by omega))) ?_
  refine SOps.pures 1 (i' := 3) (m' := 3) (e' := [(34, .int .u8 b), (33, .int .i64 a), (32, .int .u8 a), (2, .int .u8 a), (3, .int .u8 b), (9, .pointer (some ⟨sx2, 0, none⟩)), (10, .slice Sx3 ((madeL l).length) cx4), (12, .int .i64 f), (13, .slice none 0 0)]) (by intro u; kernel_rfl) ?_
  refine SOps.v (Val.pe 35 (.int .i64 (IntKind.i64.wrap b)) (.int .i64 b) (by intro u; kernel_rfl) (i64_in rfl (by omega) (by omega))) ?_
  refine SOps.v (Val.pe 36 (.int .i64 (IntKind.i64.wrap (a + b))) (.int .i64 (a + b)) (by intro u; kernel_rfl) (i64_in rfl (by omega) (by omega))) ?_
  refine SOps.pures 1 (i' := 6) (m' := 0) (e' := [(37, .int .i64 0), (36, .int .i64 (a + b)), (35, .int .i64 b), (34, .int .u8 b), (33, .int .i64 a), (32, .int .u8 a), (2, .int .u8 a), (3, .int .u8 b), (9, .pointer (some ⟨sx2, 0, none⟩)), (10, .slice Sx3 ((madeL l).length) cx4), (12, .int .i64 f), (13, .slice none 0 0)]) (by intro u; kernel_rfl) ?_
  refine SOps.nil (.inl rfl) ?_
  refine At.pick [2, 3, 9, 10, 12, 13, 36, 37] (e' := [(2, .int .u8 a), (3, .int .u8 b), (9, .pointer (some ⟨sx2, 0, none⟩)), (10, .slice Sx3 ((madeL l).length) cx4), (12, .int .i64 f), (13, .slice none 0 0), (36, .int .i64 (a + b)), (37, .int .i64 0)]) (by kernel_rfl) ?_
  refine At.conseq1 (fun F w ho => Grow.nil_ 3 1 ho) ?_
  refine At.keep [0, 1, 0, 0] (B := [Grow none 0 3 1 0 (ints ([])), Grow Sx3 cx4 30 4 ((madeL l).length) ((madeL l).flatMap encA), SetC sx2 (madeL l), B]) (D := []) rfl ?_
  exact weekBetween_loop B A l N c1 hl hB hA hu f a b hf ha hb sx2 cx4 Sx3 hg ((a + b).toNat + 1) 0 0 none 0 [] (by omega) (by omega) rfl rfl
end Go.Proofs.Wk
