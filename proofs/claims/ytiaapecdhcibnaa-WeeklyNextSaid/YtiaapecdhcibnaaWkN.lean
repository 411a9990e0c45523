/- WeeklyNext. -/
import Derived.Test.YtiaapecdhcibnaaWkG
import Derived.Test.YtiaapecdhcibnaaWkY
import Derived.Test.YtiaapecdhcibnaaWkP
namespace Go.Proofs.Wk
open Go Go.Sp Go.Wk
set_option linter.unusedVariables false
set_option linter.unusedSimpArgs false
set_option linter.unnecessarySimpa false
set_option maxRecDepth 100000
noncomputable def bd4 : Code := (Try.f4.body).getD .skip
noncomputable def kt4_0 : List Item := .code (pick [1, 1, 1, 1, 1, 1, 1] bd4) :: []
noncomputable def kt4_1 : List Item := .inBlock 0 :: kt4_0
noncomputable def kt4_2 : List Item := .inLoop (pick [1, 1, 1, 1, 1, 1, 0, 1, 0, 0] bd4) :: kt4_1
noncomputable def kt4_3 : List Item := .code (pick [1, 1, 1, 1, 1, 1, 0, 1, 0, 0, 1] bd4) :: kt4_2
noncomputable def kt4_4 : List Item := .code (pick [1, 1, 1, 1, 1, 1, 0, 1, 0, 0, 0, 1] bd4) :: kt4_3
noncomputable def pt4_0 : List Item := .code (pick [1, 1, 1, 1, 1, 1, 0, 1, 0, 0, 0, 0] bd4) :: kt4_4
noncomputable def opt4_0 : Array Oper := opsOf (pick [1, 1, 1, 1, 1, 1, 0, 1, 0, 0, 0, 0] bd4)
noncomputable def pt4_1 : List Item := .code (pick [1, 1, 1, 1, 1, 1, 0, 1, 0, 0, 0, 1] bd4) :: kt4_3
noncomputable def kt4_5 : List Item := .code (pick [1, 1, 1, 1, 1, 1, 0, 1, 0, 0, 1, 1] bd4) :: kt4_2
noncomputable def kt4_6 : List Item := .inBlock 1 :: kt4_5
noncomputable def kt4_7 : List Item := .code (pick [1, 1, 1, 1, 1, 1, 0, 1, 0, 0, 1, 0, 0, 1] bd4) :: kt4_6
noncomputable def pt4_2 : List Item := .code (pick [1, 1, 1, 1, 1, 1, 0, 1, 0, 0, 1, 0, 0, 0] bd4) :: kt4_7
noncomputable def opt4_2 : Array Oper := opsOf (pick [1, 1, 1, 1, 1, 1, 0, 1, 0, 0, 1, 0, 0, 0] bd4)
noncomputable def kt4_8 : List Item := .code (pick [1, 1, 1, 1, 1, 1, 1, 1] bd4) :: []
noncomputable def pt4_3 : List Item := .code (pick [1, 1, 1, 1, 1, 1, 1, 0] bd4) :: kt4_8
noncomputable def opt4_3 : Array Oper := opsOf (pick [1, 1, 1, 1, 1, 1, 1, 0] bd4)
noncomputable def kt4_9 : List Item := .code (pick [1, 1, 1, 1, 1, 1, 0, 1, 0, 0, 1, 0, 0, 1, 1] bd4) :: kt4_6
noncomputable def pt4_4 : List Item := .code (pick [1, 1, 1, 1, 1, 1, 0, 1, 0, 0, 1, 0, 0, 1, 0] bd4) :: kt4_9
noncomputable def opt4_4 : Array Oper := opsOf (pick [1, 1, 1, 1, 1, 1, 0, 1, 0, 0, 1, 0, 0, 1, 0] bd4)
noncomputable def pt4_5 : List Item := .code (pick [1, 1, 1, 1, 1, 1, 0, 1, 0, 0, 1, 0, 0, 1, 1] bd4) :: kt4_6
noncomputable def kt4_10 : List Item := .code (pick [1, 1, 1, 1, 1, 1, 0, 1, 0, 0, 1, 0, 0, 1, 1, 0, 1] bd4) :: kt4_6
noncomputable def pt4_6 : List Item := .code (pick [1, 1, 1, 1, 1, 1, 0, 1, 0, 0, 1, 0, 0, 1, 1, 0, 0] bd4) :: kt4_10
noncomputable def opt4_6 : Array Oper := opsOf (pick [1, 1, 1, 1, 1, 1, 0, 1, 0, 0, 1, 0, 0, 1, 1, 0, 0] bd4)
noncomputable def pt4_7 : List Item := .code (pick [1, 1, 1, 1, 1, 1, 0, 1, 0, 0, 1, 1] bd4) :: kt4_2
noncomputable def opt4_7 : Array Oper := opsOf (pick [1, 1, 1, 1, 1, 1, 0, 1, 0, 0, 1, 1] bd4)
noncomputable def pt4_8 : List Item := .code (pick [1, 1, 1, 1, 1, 1, 0, 1, 0, 0, 1, 0, 0, 1, 1, 0, 1] bd4) :: kt4_6
noncomputable def pt4_9 : List Item := .code (pick [1, 1, 1, 1, 1, 1, 1, 1] bd4) :: []
noncomputable def kt4_11 : List Item := .code (pick [1] bd4) :: []
noncomputable def pt4_10 : List Item := .code (pick [0] bd4) :: kt4_11
noncomputable def opt4_10 : Array Oper := opsOf (pick [0] bd4)
noncomputable def kt4_12 : List Item := .code (pick [1, 1] bd4) :: []
noncomputable def kt4_13 : List Item := .code (pick [1, 0, 1] bd4) :: kt4_12
noncomputable def pt4_11 : List Item := .code (pick [1, 0, 0] bd4) :: kt4_13
noncomputable def opt4_11 : Array Oper := opsOf (pick [1, 0, 0] bd4)
noncomputable def pt4_12 : List Item := .code (pick [1, 0, 1] bd4) :: kt4_12
noncomputable def kt4_14 : List Item := .code (pick [1, 0, 1, 0, 1] bd4) :: kt4_12
noncomputable def pt4_13 : List Item := .code (pick [1, 0, 1, 0, 0] bd4) :: kt4_14
noncomputable def opt4_13 : Array Oper := opsOf (pick [1, 0, 1, 0, 0] bd4)
noncomputable def kt4_15 : List Item := .code (pick [1, 1, 1] bd4) :: []
noncomputable def kt4_16 : List Item := .code (pick [1, 1, 0, 1] bd4) :: kt4_15
noncomputable def pt4_14 : List Item := .code (pick [1, 1, 0, 0] bd4) :: kt4_16
noncomputable def opt4_14 : Array Oper := opsOf (pick [1, 1, 0, 0] bd4)
noncomputable def pt4_15 : List Item := .code (pick [1, 1, 0, 1] bd4) :: kt4_15
noncomputable def kt4_17 : List Item := .code (pick [1, 1, 0, 1, 0, 1] bd4) :: kt4_15
noncomputable def pt4_16 : List Item := .code (pick [1, 1, 0, 1, 0, 0] bd4) :: kt4_17
noncomputable def opt4_16 : Array Oper := opsOf (pick [1, 1, 0, 1, 0, 0] bd4)
noncomputable def kt4_18 : List Item := .code (pick [1, 1, 1, 1] bd4) :: []
noncomputable def pt4_17 : List Item := .code (pick [1, 1, 1, 0] bd4) :: kt4_18
noncomputable def opt4_17 : Array Oper := opsOf (pick [1, 1, 1, 0] bd4)
noncomputable def pt4_18 : List Item := .code (pick [1, 1, 0, 1, 0, 1] bd4) :: kt4_15
noncomputable def kt4_19 : List Item := .code (pick [1, 1, 1, 1, 1] bd4) :: []
noncomputable def kt4_20 : List Item := .code (pick [1, 1, 1, 1, 0, 1] bd4) :: kt4_19
noncomputable def pt4_19 : List Item := .code (pick [1, 1, 1, 1, 0, 0] bd4) :: kt4_20
noncomputable def opt4_19 : Array Oper := opsOf (pick [1, 1, 1, 1, 0, 0] bd4)
noncomputable def pt4_20 : List Item := .code (pick [1, 1, 1, 1, 0, 1] bd4) :: kt4_19
noncomputable def kt4_21 : List Item := .code (pick [1, 1, 1, 1, 0, 1, 0, 1] bd4) :: kt4_19
noncomputable def pt4_21 : List Item := .code (pick [1, 1, 1, 1, 0, 1, 0, 0] bd4) :: kt4_21
noncomputable def opt4_21 : Array Oper := opsOf (pick [1, 1, 1, 1, 0, 1, 0, 0] bd4)
noncomputable def kt4_22 : List Item := .code (pick [1, 1, 1, 1, 1, 1] bd4) :: []
noncomputable def pt4_22 : List Item := .code (pick [1, 1, 1, 1, 1, 0] bd4) :: kt4_22
noncomputable def opt4_22 : Array Oper := opsOf (pick [1, 1, 1, 1, 1, 0] bd4)
noncomputable def kt4_23 : List Item := .code (pick [1, 1, 1, 1, 1, 1, 0, 1] bd4) :: kt4_0
noncomputable def pt4_23 : List Item := .code (pick [1, 1, 1, 1, 1, 1, 0, 0] bd4) :: kt4_23
noncomputable def opt4_23 : Array Oper := opsOf (pick [1, 1, 1, 1, 1, 1, 0, 0] bd4)
theorem weekNext_loop (B : Asn) (A : Option Addr) (l : List Doing) (N c1 : Nat) (hl : l.length = N) (hB : InB B A (l.flatMap encC)) (hA : 0 < N → A = some ⟨blk A, ofs A, none⟩) (hu : ∀ i, i < N → 0 ≤ (l.getD i c0).kind) (m : Int) (hm : -2147483648 ≤ m ∧ m ≤ 2147483647) (c2 c3 : Nat) (S1 S2 : Option Addr) (hg : GoodA (madeL l)) : ∀ (mm i : Nat), 10081 - i < mm → 1 ≤ i → i ≤ 10081 → (∀ q : Nat, 1 ≤ q → q < i → ringsL (madeL l) (m + (q : Int)) = []) → At ⟨Try.prog, 4, (fun v' => star (fact (v' = .bool true) :: [B])), 60, false⟩ pt4_0 [(1, .int .i32 m), (6, .slice S1 ((madeL l).length) c2), (8, .int .i64 (nextN (madeL l) m)), (9, .slice S2 ((nextR (madeL l) m).length) c3), (10, .int .i64 (i : Int))] [Grow S1 c2 30 4 ((madeL l).length) ((madeL l).flatMap encA), Grow S2 c3 3 1 ((nextR (madeL l) m).length) (ints (nextR (madeL l) m)), B] := by
 have hlen := hg.len
 intro mm
 induction mm with
 | zero => intro i h; omega
 | succ mm ih =>
  intro i hmm hi1 hi2 hno
  refine At.region (ops := opt4_0) (m := 2) (k' := kt4_4) (by kernel_rfl) 300 (k'' := pt4_1) (by kernel_rfl) ?_
  refine SOps.pures 2 (i' := 2) (m' := 0) (e' := [(33, .bool (decide ((i : Int) ≤ 10080))), (32, .int .i64 (i : Int)), (1, .int .i32 m), (6, .slice S1 ((madeL l).length) c2), (8, .int .i64 (nextN (madeL l) m)), (9, .slice S2 ((nextR (madeL l) m).length) c3), (10, .int .i64 (i : Int))]) (by intro u; kernel_rfl) ?_
  refine SOps.nil (.inl rfl) ?_
  refine At.pick [1, 6, 8, 9, 10, 33] (e' := [(1, .int .i32 m), (6, .slice S1 ((madeL l).length) c2), (8, .int .i64 (nextN (madeL l) m)), (9, .slice S2 ((nextR (madeL l) m).length) c3), (10, .int .i64 (i : Int)), (33, .bool (decide ((i : Int) ≤ 10080)))]) (by kernel_rfl) ?_
  refine At.split (fun zq => [(1, .int .i32 m), (6, .slice S1 ((madeL l).length) c2), (8, .int .i64 (nextN (madeL l) m)), (9, .slice S2 ((nextR (madeL l) m).length) c3), (10, .int .i64 (i : Int)), (33, .bool zq)]) (decide ((i : Int) ≤ 10080)) (fun hx1 => ?_) (fun hx1 => ?_)
  ·have hx1 : (i : Int) ≤ 10080 := by simpa using hx1
   refine At.cond 300 true (c := .tmp 33) (k1 := pt4_2) (k2 := pt4_3) (by kernel_rfl) (by intro u; kernel_rfl) (fun _ => ?_) (fun h => by cases h)
   refine At.pick [1, 6, 8, 9, 10] (e' := [(1, .int .i32 m), (6, .slice S1 ((madeL l).length) c2), (8, .int .i64 (nextN (madeL l) m)), (9, .slice S2 ((nextR (madeL l) m).length) c3), (10, .int .i64 (i : Int))]) (by kernel_rfl) ?_
   refine At.region (ops := opt4_2) (m := 7) (k' := kt4_7) (by kernel_rfl) 300 (k'' := pt4_4) (by kernel_rfl) ?_
   refine SOps.pures 2 (i' := 2) (m' := 5) (e' := [(37, .int .i32 m), (36, .slice S1 ((madeL l).length) c2), (1, .int .i32 m), (6, .slice S1 ((madeL l).length) c2), (8, .int .i64 (nextN (madeL l) m)), (9, .slice S2 ((nextR (madeL l) m).length) c3), (10, .int .i64 (i : Int))]) (by intro u; kernel_rfl) ?_
   refine SOps.v (Val.pe 38 (.int .i64 (IntKind.i64.wrap m)) (.int .i64 m) (by intro u; kernel_rfl) (i64_in rfl (by omega) (by omega))) ?_
   refine SOps.pures 1 (i' := 4) (m' := 3) (e' := [(39, .int .i64 (i : Int)), (38, .int .i64 m), (37, .int .i32 m), (36, .slice S1 ((madeL l).length) c2), (1, .int .i32 m), (6, .slice S1 ((madeL l).length) c2), (8, .int .i64 (nextN (madeL l) m)), (9, .slice S2 ((nextR (madeL l) m).length) c3), (10, .int .i64 (i : Int))]) (by intro u; kernel_rfl) ?_
   refine SOps.v (Val.pe 40 (.int .i64 (IntKind.i64.wrap (m + (i : Int)))) (.int .i64 (m + (i : Int))) (by intro u; kernel_rfl) (i64_in rfl (by omega) (by omega))) ?_
   refine SOps.o (Op.callX 41 11 #[.slice S1 ((madeL l).length) c2, .int .i64 (m + (i : Int))] _ _ [0] (B := [Grow S1 c2 30 4 ((madeL l).length) ((madeL l).flatMap encA)]) (D := [Grow S2 c3 3 1 ((nextR (madeL l) m).length) (ints (nextR (madeL l) m)), B]) (by intro u; kernel_rfl) (lrings S1 c2 (madeL l) hg (m + (i : Int))) (by first | exact .inr rfl | exact .inl rfl) (by kernel_rfl) ?_)
   rintro ⟨Sx2, cx3⟩ -
   refine SOps.pures 1 (i' := 7) (m' := 0) (e' := [(11, .slice Sx2 ((ringsL (madeL l) (m + (i : Int))).length) cx3), (41, .slice Sx2 ((ringsL (madeL l) (m + (i : Int))).length) cx3), (40, .int .i64 (m + (i : Int))), (39, .int .i64 (i : Int)), (38, .int .i64 m), (37, .int .i32 m), (36, .slice S1 ((madeL l).length) c2), (1, .int .i32 m), (6, .slice S1 ((madeL l).length) c2), (8, .int .i64 (nextN (madeL l) m)), (9, .slice S2 ((nextR (madeL l) m).length) c3), (10, .int .i64 (i : Int))]) (by intro u; kernel_rfl) ?_
   refine SOps.nil (.inl rfl) ?_
   refine At.pick [1, 6, 8, 9, 10, 11] (e' := [(1, .int .i32 m), (6, .slice S1 ((madeL l).length) c2), (8, .int .i64 (nextN (madeL l) m)), (9, .slice S2 ((nextR (madeL l) m).length) c3), (10, .int .i64 (i : Int)), (11, .slice Sx2 ((ringsL (madeL l) (m + (i : Int))).length) cx3)]) (by kernel_rfl) ?_
   refine At.region (ops := opt4_4) (m := 3) (k' := kt4_9) (by kernel_rfl) 300 (k'' := pt4_5) (by kernel_rfl) ?_
   refine SOps.pures 3 (i' := 3) (m' := 0) (e' := [(44, .bool (decide ((((ringsL (madeL l) (m + (i : Int))).length : Nat) : Int) > 0))), (43, .int .i64 (((ringsL (madeL l) (m + (i : Int))).length : Nat) : Int)), (42, .slice Sx2 ((ringsL (madeL l) (m + (i : Int))).length) cx3), (1, .int .i32 m), (6, .slice S1 ((madeL l).length) c2), (8, .int .i64 (nextN (madeL l) m)), (9, .slice S2 ((nextR (madeL l) m).length) c3), (10, .int .i64 (i : Int)), (11, .slice Sx2 ((ringsL (madeL l) (m + (i : Int))).length) cx3)]) (by intro u; kernel_rfl) ?_
   refine SOps.nil (.inl rfl) ?_
   refine At.pick [1, 6, 8, 9, 10, 11, 44] (e' := [(1, .int .i32 m), (6, .slice S1 ((madeL l).length) c2), (8, .int .i64 (nextN (madeL l) m)), (9, .slice S2 ((nextR (madeL l) m).length) c3), (10, .int .i64 (i : Int)), (11, .slice Sx2 ((ringsL (madeL l) (m + (i : Int))).length) cx3), (44, .bool (decide ((((ringsL (madeL l) (m + (i : Int))).length : Nat) : Int) > 0)))]) (by kernel_rfl) ?_
   refine At.split (fun zq => [(1, .int .i32 m), (6, .slice S1 ((madeL l).length) c2), (8, .int .i64 (nextN (madeL l) m)), (9, .slice S2 ((nextR (madeL l) m).length) c3), (10, .int .i64 (i : Int)), (11, .slice Sx2 ((ringsL (madeL l) (m + (i : Int))).length) cx3), (44, .bool zq)]) (decide ((((ringsL (madeL l) (m + (i : Int))).length : Nat) : Int) > 0)) (fun hx4 => ?_) (fun hx4 => ?_)
   ·have hx4 : (((ringsL (madeL l) (m + (i : Int))).length : Nat) : Int) > 0 := by simpa using hx4
    refine At.cond 300 true (c := .tmp 44) (k1 := pt4_6) (k2 := pt4_7) (by kernel_rfl) (by intro u; kernel_rfl) (fun _ => ?_) (fun h => by cases h)
    refine At.pick [8, 9, 10, 11] (e' := [(8, .int .i64 (nextN (madeL l) m)), (9, .slice S2 ((nextR (madeL l) m).length) c3), (10, .int .i64 (i : Int)), (11, .slice Sx2 ((ringsL (madeL l) (m + (i : Int))).length) cx3)]) (by kernel_rfl) ?_
    have hN : nextN (madeL l) m = (i : Int) := next_at hg (by omega) (by omega) hno (by intro h; have h9 := congrArg List.length h; rw [List.length_nil] at h9; omega)
    have hRR : (nextR (madeL l) m) = (ringsL (madeL l) (m + (i : Int))) := next_rings hN (by omega)
    have hrl := ringsL_len (madeL l) (m + (i : Int))
    skip
    refine At.region (ops := opt4_6) (m := 9) (k' := kt4_10) (by kernel_rfl) 300 (k'' := pt4_8) (by kernel_rfl) ?_
    refine SOps.pures 2 (i' := 2) (m' := 7) (e' := [(46, .int .i64 (i : Int)), (45, .int .i64 (nextN (madeL l) m)), (8, .int .i64 (nextN (madeL l) m)), (9, .slice S2 ((nextR (madeL l) m).length) c3), (10, .int .i64 (i : Int)), (11, .slice Sx2 ((ringsL (madeL l) (m + (i : Int))).length) cx3)]) (by intro u; kernel_rfl) ?_
    refine SOps.v (Val.pe 47 (.bool (nextN (madeL l) m == (i : Int))) (.bool true) (by intro u; kernel_rfl) (by rw [hN]; simp)) ?_
    refine SOps.pures 3 (i' := 6) (m' := 3) (e' := [(50, .slice Sx2 ((ringsL (madeL l) (m + (i : Int))).length) cx3), (49, .slice S2 ((nextR (madeL l) m).length) c3), (48, .bool true), (47, .bool true), (46, .int .i64 (i : Int)), (45, .int .i64 (nextN (madeL l) m)), (8, .int .i64 (nextN (madeL l) m)), (9, .slice S2 ((nextR (madeL l) m).length) c3), (10, .int .i64 (i : Int)), (11, .slice Sx2 ((ringsL (madeL l) (m + (i : Int))).length) cx3)]) (by intro u; kernel_rfl) ?_
    have hc := same S2 Sx2 ((nextR (madeL l) m).length) ((ringsL (madeL l) (m + (i : Int))).length) c3 cx3 (nextR (madeL l) m) (ringsL (madeL l) (m + (i : Int))) rfl rfl (by rw [hRR]; omega)
    rw [show decide ((nextR (madeL l) m) = (ringsL (madeL l) (m + (i : Int)))) = true from decide_eq_true hRR] at hc
    refine SOps.o (Op.callS 51 9 #[.slice S2 ((nextR (madeL l) m).length) c3, .slice Sx2 ((ringsL (madeL l) (m + (i : Int))).length) cx3] (.bool true) [2, 0] (B := [Grow S2 c3 3 1 ((nextR (madeL l) m).length) (ints (nextR (madeL l) m)), Grow Sx2 cx3 3 1 ((ringsL (madeL l) (m + (i : Int))).length) (ints (ringsL (madeL l) (m + (i : Int))))]) (D := [Grow S1 c2 30 4 ((madeL l).length) ((madeL l).flatMap encA), B]) (by intro u; kernel_rfl) (hc) (by first | exact .inr rfl | exact .inl rfl) (by kernel_rfl) ?_)
    refine SOps.pures 2 (i' := 9) (m' := 0) (e' := [(4, .bool true), (52, .bool true), (51, .bool true), (50, .slice Sx2 ((ringsL (madeL l) (m + (i : Int))).length) cx3), (49, .slice S2 ((nextR (madeL l) m).length) c3), (48, .bool true), (47, .bool true), (46, .int .i64 (i : Int)), (45, .int .i64 (nextN (madeL l) m)), (8, .int .i64 (nextN (madeL l) m)), (9, .slice S2 ((nextR (madeL l) m).length) c3), (10, .int .i64 (i : Int)), (11, .slice Sx2 ((ringsL (madeL l) (m + (i : Int))).length) cx3)]) (by intro u; kernel_rfl) ?_
    refine SOps.nil (.inl rfl) ?_
    refine At.pick [4] (e' := [(4, .bool true)]) (by kernel_rfl) ?_
    refine At.ret1 (fn := Try.f4) (v := .bool true) (t := 4) (by kernel_rfl) Try.func4 (by kernel_rfl) (by kernel_rfl) (fun F w ho => ?_)
    exact shutV rfl [3] rfl ho
   ·have hx4 : (((ringsL (madeL l) (m + (i : Int))).length : Nat) : Int) ≤ 0 := by simpa using hx4
    refine At.cond 300 false (c := .tmp 44) (k1 := pt4_6) (k2 := pt4_7) (by kernel_rfl) (by intro u; kernel_rfl) (fun h => by cases h) (fun _ => ?_)
    refine At.pick [1, 6, 8, 9, 10] (e' := [(1, .int .i32 m), (6, .slice S1 ((madeL l).length) c2), (8, .int .i64 (nextN (madeL l) m)), (9, .slice S2 ((nextR (madeL l) m).length) c3), (10, .int .i64 (i : Int))]) (by kernel_rfl) ?_
    refine At.region (ops := opt4_7) (m := 3) (k' := kt4_2) (by kernel_rfl) 300 (k'' := pt4_0) (by kernel_rfl) ?_
    refine SOps.pures 1 (i' := 1) (m' := 2) (e' := [(34, .int .i64 (i : Int)), (1, .int .i32 m), (6, .slice S1 ((madeL l).length) c2), (8, .int .i64 (nextN (madeL l) m)), (9, .slice S2 ((nextR (madeL l) m).length) c3), (10, .int .i64 (i : Int))]) (by intro u; kernel_rfl) ?_
    refine SOps.v (Val.pe 35 (.int .i64 (IntKind.i64.wrap ((i : Int) + 1))) (.int .i64 ((i + 1 : Nat) : Int)) (by intro u; kernel_rfl) (i64_in (by omega) (by omega) (by omega))) ?_
    refine SOps.pures 1 (i' := 3) (m' := 0) (e' := [(10, .int .i64 ((i + 1 : Nat) : Int)), (35, .int .i64 ((i + 1 : Nat) : Int)), (34, .int .i64 (i : Int)), (1, .int .i32 m), (6, .slice S1 ((madeL l).length) c2), (8, .int .i64 (nextN (madeL l) m)), (9, .slice S2 ((nextR (madeL l) m).length) c3), (10, .int .i64 (i : Int))]) (by intro u; kernel_rfl) ?_
    refine SOps.nil (.inl rfl) ?_
    refine At.pick [1, 6, 8, 9, 10] (e' := [(1, .int .i32 m), (6, .slice S1 ((madeL l).length) c2), (8, .int .i64 (nextN (madeL l) m)), (9, .slice S2 ((nextR (madeL l) m).length) c3), (10, .int .i64 ((i + 1 : Nat) : Int))]) (by kernel_rfl) ?_
    refine At.keep [1, 1, 1] (B := [Grow S1 c2 30 4 ((madeL l).length) ((madeL l).flatMap encA), Grow S2 c3 3 1 ((nextR (madeL l) m).length) (ints (nextR (madeL l) m)), B]) (D := [Grow Sx2 cx3 3 1 ((ringsL (madeL l) (m + (i : Int))).length) (ints (ringsL (madeL l) (m + (i : Int))))]) rfl ?_
    refine ih (i + 1) (by omega) (by omega) (by omega) (fun q h1 h2 => ?_)
    rcases Nat.lt_or_eq_of_le (Nat.le_of_lt_succ h2) with h3 | h3
    · exact hno q h1 h3
    · rw [h3]; exact List.eq_nil_of_length_eq_zero (by omega)
  ·have hx1 : (i : Int) > 10080 := by simpa using hx1
   refine At.cond 300 false (c := .tmp 33) (k1 := pt4_2) (k2 := pt4_3) (by kernel_rfl) (by intro u; kernel_rfl) (fun h => by cases h) (fun _ => ?_)
   refine At.pick [8, 9] (e' := [(8, .int .i64 (nextN (madeL l) m)), (9, .slice S2 ((nextR (madeL l) m).length) c3)]) (by kernel_rfl) ?_
   have hN : nextN (madeL l) m = 0 := next_none hg (fun q h1 h2 => hno q h1 (by omega))
   have hRR : (nextR (madeL l) m) = [] := by unfold nextR; rw [if_pos hN]
   refine At.region (ops := opt4_3) (m := 8) (k' := kt4_8) (by kernel_rfl) 300 (k'' := pt4_9) (by kernel_rfl) ?_
   refine SOps.pures 1 (i' := 1) (m' := 7) (e' := [(53, .int .i64 (nextN (madeL l) m)), (8, .int .i64 (nextN (madeL l) m)), (9, .slice S2 ((nextR (madeL l) m).length) c3)]) (by intro u; kernel_rfl) ?_
   refine SOps.v (Val.pe 54 (.bool (nextN (madeL l) m == 0)) (.bool true) (by intro u; kernel_rfl) (by rw [hN]; rfl)) ?_
   refine SOps.pures 3 (i' := 5) (m' := 3) (e' := [(57, .int .i64 (((nextR (madeL l) m).length : Nat) : Int)), (56, .slice S2 ((nextR (madeL l) m).length) c3), (55, .bool true), (54, .bool true), (53, .int .i64 (nextN (madeL l) m)), (8, .int .i64 (nextN (madeL l) m)), (9, .slice S2 ((nextR (madeL l) m).length) c3)]) (by intro u; kernel_rfl) ?_
   refine SOps.v (Val.pe 58 (.bool (((nextR (madeL l) m).length : Int) == 0)) (.bool true) (by intro u; kernel_rfl) (by rw [hRR]; rfl)) ?_
   refine SOps.pures 2 (i' := 8) (m' := 0) (e' := [(4, .bool true), (59, .bool true), (58, .bool true), (57, .int .i64 (((nextR (madeL l) m).length : Nat) : Int)), (56, .slice S2 ((nextR (madeL l) m).length) c3), (55, .bool true), (54, .bool true), (53, .int .i64 (nextN (madeL l) m)), (8, .int .i64 (nextN (madeL l) m)), (9, .slice S2 ((nextR (madeL l) m).length) c3)]) (by intro u; kernel_rfl) ?_
   refine SOps.nil (.inl rfl) ?_
   refine At.pick [4] (e' := [(4, .bool true)]) (by kernel_rfl) ?_
   refine At.ret1 (fn := Try.f4) (v := .bool true) (t := 4) (by kernel_rfl) Try.func4 (by kernel_rfl) (by kernel_rfl) (fun F w ho => ?_)
   exact shutV rfl [2] rfl ho
theorem weekNext (B : Asn) (A : Option Addr) (l : List Doing) (N c1 : Nat) (hl : l.length = N) (hB : InB B A (l.flatMap encC)) (hA : 0 < N → A = some ⟨blk A, ofs A, none⟩) (hu : ∀ i, i < N → 0 ≤ (l.getD i c0).kind) (m : Int) (hm : -2147483648 ≤ m ∧ m ≤ 2147483647) : Ctr Try.prog 4 #[.slice A N c1, .int .i32 m] [B] (fun v' => star (fact (v' = .bool true) :: [B])) false := by
 refine spec_of_at (fn := Try.f4) (c := bd4) (args := [.slice A N c1, .int .i32 m]) (n := 60) (e := [(0, .slice A N c1), (1, .int .i32 m)]) (k := pt4_10) Try.func4 (by kernel_rfl) (by kernel_rfl) (by kernel_rfl) (by kernel_rfl) 300 (by kernel_rfl) ?_
 refine At.region (ops := opt4_10) (m := 1) (k' := kt4_11) (by kernel_rfl) 300 (k'' := pt4_11) (by kernel_rfl) ?_
 refine SOps.pures 1 (i' := 1) (m' := 0) (e' := [(4, .bool false), (0, .slice A N c1), (1, .int .i32 m)]) (by intro u; kernel_rfl) ?_
 refine SOps.nil (.inl rfl) ?_
 refine At.pick [0, 1] (e' := [(0, .slice A N c1), (1, .int .i32 m)]) (by kernel_rfl) ?_
 refine At.region (ops := opt4_11) (m := 2) (k' := kt4_13) (by kernel_rfl) 300 (k'' := pt4_12) (by kernel_rfl) ?_
 refine SOps.o (Op.callS 12 6 #[] (.bool true) [] (B := []) (D := [B]) (by intro u; kernel_rfl) (fixedW ) (by first | exact .inr rfl | exact .inl rfl) (by kernel_rfl) ?_)
 refine SOps.pures 1 (i' := 2) (m' := 0) (e' := [(13, .bool false), (12, .bool true), (0, .slice A N c1), (1, .int .i32 m)]) (by intro u; kernel_rfl) ?_
 refine SOps.nil (.inl rfl) ?_
 refine At.pick [0, 1, 13] (e' := [(0, .slice A N c1), (1, .int .i32 m), (13, .bool false)]) (by kernel_rfl) ?_
 refine At.cond 300 false (c := .tmp 13) (k1 := pt4_13) (k2 := pt4_14) (by kernel_rfl) (by intro u; kernel_rfl) (fun h => by cases h) (fun _ => ?_)
 refine At.pick [0, 1] (e' := [(0, .slice A N c1), (1, .int .i32 m)]) (by kernel_rfl) ?_
 refine At.region (ops := opt4_14) (m := 3) (k' := kt4_16) (by kernel_rfl) 300 (k'' := pt4_15) (by kernel_rfl) ?_
 refine SOps.pures 3 (i' := 3) (m' := 0) (e' := [(16, .bool (decide ((N : Int) > 20))), (15, .int .i64 (N : Int)), (14, .slice A N c1), (0, .slice A N c1), (1, .int .i32 m)]) (by intro u; kernel_rfl) ?_
 refine SOps.nil (.inl rfl) ?_
 refine At.pick [0, 1, 16] (e' := [(0, .slice A N c1), (1, .int .i32 m), (16, .bool (decide ((N : Int) > 20)))]) (by kernel_rfl) ?_
 refine At.split (fun zq => [(0, .slice A N c1), (1, .int .i32 m), (16, .bool zq)]) (decide ((N : Int) > 20)) (fun hx1 => ?_) (fun hx1 => ?_)
 ·have hx1 : (N : Int) > 20 := by simpa using hx1
  refine At.cond 300 true (c := .tmp 16) (k1 := pt4_16) (k2 := pt4_17) (by kernel_rfl) (by intro u; kernel_rfl) (fun _ => ?_) (fun h => by cases h)
  refine At.pick [] (e' := []) (by kernel_rfl) ?_
  refine At.region (ops := opt4_16) (m := 1) (k' := kt4_17) (by kernel_rfl) 300 (k'' := pt4_18) (by kernel_rfl) ?_
  refine SOps.pures 1 (i' := 1) (m' := 0) (e' := [(4, .bool true)]) (by intro u; kernel_rfl) ?_
  refine SOps.nil (.inl rfl) ?_
  refine At.ret1 (fn := Try.f4) (v := .bool true) (t := 4) (by kernel_rfl) Try.func4 (by kernel_rfl) (by kernel_rfl) (fun F w ho => ?_)
  exact shutV rfl [0] rfl ho
 ·have hx1 : (N : Int) ≤ 20 := by simpa using hx1
  refine At.cond 300 false (c := .tmp 16) (k1 := pt4_16) (k2 := pt4_17) (by kernel_rfl) (by intro u; kernel_rfl) (fun h => by cases h) (fun _ => ?_)
  refine At.pick [0, 1] (e' := [(0, .slice A N c1), (1, .int .i32 m)]) (by kernel_rfl) ?_
  refine At.region (ops := opt4_17) (m := 9) (k' := kt4_18) (by kernel_rfl) 300 (k'' := pt4_19) (by kernel_rfl) ?_
  refine SOps.pures 1 (i' := 1) (m' := 8) (e' := [(18, .slice A N c1), (0, .slice A N c1), (1, .int .i32 m)]) (by intro u; kernel_rfl) ?_
  have hg : GoodA (madeL l) := by have := madeL_good l N; rwa [List.take_of_length_le (by omega)] at this
  have hlen := hg.len
  refine SOps.o (Op.callX 19 7 #[.slice A N c1] _ _ [0] (B := [B]) (D := []) (by intro u; kernel_rfl) (madeS B A l N c1 hl hB hA (by omega) hu) (by first | exact .inr rfl | exact .inl rfl) (by kernel_rfl) ?_)
  rintro ⟨sx2, Sx3, cx4⟩ -
  refine SOps.pures 7 (i' := 9) (m' := 0) (e' := [(7, .bool true), (6, .slice Sx3 ((madeL l).length) cx4), (5, .pointer (some ⟨sx2, 0, none⟩)), (22, .bool true), (21, .slice Sx3 ((madeL l).length) cx4), (20, .pointer (some ⟨sx2, 0, none⟩)), (17, .tuple #[.pointer (some ⟨sx2, 0, none⟩), .slice Sx3 ((madeL l).length) cx4, .bool true]), (19, .tuple #[.pointer (some ⟨sx2, 0, none⟩), .slice Sx3 ((madeL l).length) cx4, .bool true]), (18, .slice A N c1), (0, .slice A N c1), (1, .int .i32 m)]) (by intro u; kernel_rfl) ?_
  refine SOps.nil (.inl rfl) ?_
  refine At.pick [1, 5, 6, 7] (e' := [(1, .int .i32 m), (5, .pointer (some ⟨sx2, 0, none⟩)), (6, .slice Sx3 ((madeL l).length) cx4), (7, .bool true)]) (by kernel_rfl) ?_
  refine At.region (ops := opt4_19) (m := 2) (k' := kt4_20) (by kernel_rfl) 300 (k'' := pt4_20) (by kernel_rfl) ?_
  refine SOps.pures 2 (i' := 2) (m' := 0) (e' := [(24, .bool false), (23, .bool true), (1, .int .i32 m), (5, .pointer (some ⟨sx2, 0, none⟩)), (6, .slice Sx3 ((madeL l).length) cx4), (7, .bool true)]) (by intro u; kernel_rfl) ?_
  refine SOps.nil (.inl rfl) ?_
  refine At.pick [1, 5, 6, 24] (e' := [(1, .int .i32 m), (5, .pointer (some ⟨sx2, 0, none⟩)), (6, .slice Sx3 ((madeL l).length) cx4), (24, .bool false)]) (by kernel_rfl) ?_
  refine At.cond 300 false (c := .tmp 24) (k1 := pt4_21) (k2 := pt4_22) (by kernel_rfl) (by intro u; kernel_rfl) (fun h => by cases h) (fun _ => ?_)
  refine At.pick [1, 5, 6] (e' := [(1, .int .i32 m), (5, .pointer (some ⟨sx2, 0, none⟩)), (6, .slice Sx3 ((madeL l).length) cx4)]) (by kernel_rfl) ?_
  refine At.region (ops := opt4_22) (m := 9) (k' := kt4_22) (by kernel_rfl) 300 (k'' := pt4_23) (by kernel_rfl) ?_
  refine SOps.pures 2 (i' := 2) (m' := 7) (e' := [(27, .int .i32 m), (26, .pointer (some ⟨sx2, 0, none⟩)), (1, .int .i32 m), (5, .pointer (some ⟨sx2, 0, none⟩)), (6, .slice Sx3 ((madeL l).length) cx4)]) (by intro u; kernel_rfl) ?_
  refine SOps.v (Val.pe 28 (.int .i64 (IntKind.i64.wrap m)) (.int .i64 m) (by intro u; kernel_rfl) (i64_in rfl (by omega) (by omega))) ?_
  refine SOps.o (Op.callX 29 12 #[.pointer (some ⟨sx2, 0, none⟩), .int .i64 m] _ _ [0] (B := [SetC sx2 (madeL l)]) (D := [Grow Sx3 cx4 30 4 ((madeL l).length) ((madeL l).flatMap encA), B]) (by intro u; kernel_rfl) (nextS sx2 (madeL l) hg m) (by first | exact .inr rfl | exact .inl rfl) (by kernel_rfl) ?_)
  rintro ⟨Sx5, cx6⟩ -
  refine SOps.pures 5 (i' := 9) (m' := 0) (e' := [(9, .slice Sx5 ((nextR (madeL l) m).length) cx6), (8, .int .i64 (nextN (madeL l) m)), (31, .slice Sx5 ((nextR (madeL l) m).length) cx6), (30, .int .i64 (nextN (madeL l) m)), (25, .tuple #[.int .i64 (nextN (madeL l) m), .slice Sx5 ((nextR (madeL l) m).length) cx6]), (29, .tuple #[.int .i64 (nextN (madeL l) m), .slice Sx5 ((nextR (madeL l) m).length) cx6]), (28, .int .i64 m), (27, .int .i32 m), (26, .pointer (some ⟨sx2, 0, none⟩)), (1, .int .i32 m), (5, .pointer (some ⟨sx2, 0, none⟩)), (6, .slice Sx3 ((madeL l).length) cx4)]) (by intro u; kernel_rfl) ?_
  refine SOps.nil (.inl rfl) ?_
  refine At.pick [1, 6, 8, 9] (e' := [(1, .int .i32 m), (6, .slice Sx3 ((madeL l).length) cx4), (8, .int .i64 (nextN (madeL l) m)), (9, .slice Sx5 ((nextR (madeL l) m).length) cx6)]) (by kernel_rfl) ?_
  refine At.region (ops := opt4_23) (m := 1) (k' := kt4_23) (by kernel_rfl) 300 (k'' := pt4_0) (by kernel_rfl) ?_
  refine SOps.pures 1 (i' := 1) (m' := 0) (e' := [(10, .int .i64 1), (1, .int .i32 m), (6, .slice Sx3 ((madeL l).length) cx4), (8, .int .i64 (nextN (madeL l) m)), (9, .slice Sx5 ((nextR (madeL l) m).length) cx6)]) (by intro u; kernel_rfl) ?_
  refine SOps.nil (.inl rfl) ?_
  refine At.pick [1, 6, 8, 9, 10] (e' := [(1, .int .i32 m), (6, .slice Sx3 ((madeL l).length) cx4), (8, .int .i64 (nextN (madeL l) m)), (9, .slice Sx5 ((nextR (madeL l) m).length) cx6), (10, .int .i64 1)]) (by kernel_rfl) ?_
  refine At.keep [2, 0, 1] (B := [Grow Sx3 cx4 30 4 ((madeL l).length) ((madeL l).flatMap encA), Grow Sx5 cx6 3 1 ((nextR (madeL l) m).length) (ints (nextR (madeL l) m)), B]) (D := [SetC sx2 (madeL l)]) rfl ?_
  exact weekNext_loop B A l N c1 hl hB hA hu m hm cx4 cx6 Sx3 Sx5 hg 10081 1 (by omega) (by omega) (by omega) (fun q h1 h2 => by omega)
end Go.Proofs.Wk
