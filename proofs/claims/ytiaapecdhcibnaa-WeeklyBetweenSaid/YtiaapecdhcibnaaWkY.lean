/- Weekly: the fixed answers. -/
import Derived.Test.YtiaapecdhcibnaaWkF
import Derived.Test.YtiaapecdhcibnaaWkX
namespace Go.Proofs.Wk
open Go Go.Sp Go.Wk
set_option linter.unusedVariables false
set_option linter.unusedSimpArgs false
set_option linter.unnecessarySimpa false
set_option maxRecDepth 100000
noncomputable def bn12 : Code := (Try.f12.body).getD .skip
noncomputable def kn12_0 : List Item := .code (pick [1] bn12) :: []
noncomputable def pn12_0 : List Item := .code (pick [0] bn12) :: kn12_0
noncomputable def opn12_0 : Array Oper := opsOf (pick [0] bn12)
noncomputable def kn12_1 : List Item := .code (pick [1, 1] bn12) :: []
noncomputable def pn12_1 : List Item := .code (pick [1, 0] bn12) :: kn12_1
noncomputable def opn12_1 : Array Oper := opsOf (pick [1, 0] bn12)
noncomputable def kn12_2 : List Item := .code (pick [1, 1, 1] bn12) :: []
noncomputable def pn12_2 : List Item := .code (pick [1, 1, 0] bn12) :: kn12_2
noncomputable def opn12_2 : Array Oper := opsOf (pick [1, 1, 0] bn12)
noncomputable def kn12_3 : List Item := .code (pick [1, 1, 1, 1] bn12) :: []
noncomputable def kn12_4 : List Item := .code (pick [1, 1, 1, 0, 1] bn12) :: kn12_3
noncomputable def pn12_3 : List Item := .code (pick [1, 1, 1, 0, 0] bn12) :: kn12_4
noncomputable def opn12_3 : Array Oper := opsOf (pick [1, 1, 1, 0, 0] bn12)
noncomputable def kn12_5 : List Item := .inBlock 0 :: kn12_3
noncomputable def kn12_6 : List Item := .inLoop (pick [1, 1, 1, 0, 1, 0, 0] bn12) :: kn12_5
noncomputable def kn12_7 : List Item := .code (pick [1, 1, 1, 0, 1, 0, 0, 1] bn12) :: kn12_6
noncomputable def pn12_4 : List Item := .code (pick [1, 1, 1, 0, 1, 0, 0, 0] bn12) :: kn12_7
noncomputable def opn12_4 : Array Oper := opsOf (pick [1, 1, 1, 0, 1, 0, 0, 0] bn12)
noncomputable def kn12_8 : List Item := .code (pick [1, 1, 1, 0, 1, 0, 0, 1, 1] bn12) :: kn12_6
noncomputable def pn12_5 : List Item := .code (pick [1, 1, 1, 0, 1, 0, 0, 1, 0] bn12) :: kn12_8
noncomputable def kn12_9 : List Item := .code (pick [1, 1, 1, 0, 1, 0, 0, 1, 1, 1] bn12) :: kn12_6
noncomputable def kn12_10 : List Item := .inBlock 1 :: kn12_9
noncomputable def kn12_11 : List Item := .code (pick [1, 1, 1, 0, 1, 0, 0, 1, 1, 0, 0, 1] bn12) :: kn12_10
noncomputable def pn12_6 : List Item := .code (pick [1, 1, 1, 0, 1, 0, 0, 1, 1, 0, 0, 0] bn12) :: kn12_11
noncomputable def opn12_6 : Array Oper := opsOf (pick [1, 1, 1, 0, 1, 0, 0, 1, 1, 0, 0, 0] bn12)
noncomputable def kn12_12 : List Item := .code (pick [1, 1, 1, 1, 1] bn12) :: []
noncomputable def kn12_13 : List Item := .code (pick [1, 1, 1, 1, 0, 1] bn12) :: kn12_12
noncomputable def pn12_7 : List Item := .code (pick [1, 1, 1, 1, 0, 0] bn12) :: kn12_13
noncomputable def opn12_7 : Array Oper := opsOf (pick [1, 1, 1, 1, 0, 0] bn12)
noncomputable def pn12_8 : List Item := .code (pick [1, 1, 1, 1, 0, 1] bn12) :: kn12_12
noncomputable def kn12_14 : List Item := .code (pick [1, 1, 1, 1, 0, 1, 0, 1] bn12) :: kn12_12
noncomputable def pn12_9 : List Item := .code (pick [1, 1, 1, 1, 0, 1, 0, 0] bn12) :: kn12_14
noncomputable def opn12_9 : Array Oper := opsOf (pick [1, 1, 1, 1, 0, 1, 0, 0] bn12)
noncomputable def kn12_15 : List Item := .code (pick [1, 1, 1, 1, 1, 1] bn12) :: []
noncomputable def pn12_10 : List Item := .code (pick [1, 1, 1, 1, 1, 0] bn12) :: kn12_15
noncomputable def opn12_10 : Array Oper := opsOf (pick [1, 1, 1, 1, 1, 0] bn12)
noncomputable def pn12_11 : List Item := .code (pick [1, 1, 1, 1, 0, 1, 0, 1] bn12) :: kn12_12
theorem nextN0 (m : Int) : Ctr Try.prog 12 #[.pointer none, .int .i64 m] [] (fun v' => star (fact (v' = .tuple #[.int .i64 0, .slice none 0 0]) :: [])) false := by
 refine spec_of_at (fn := Try.f12) (c := bn12) (args := [.pointer none, .int .i64 m]) (n := 59) (e := [(0, .pointer none), (1, .int .i64 m)]) (k := pn12_0) Try.func12 (by kernel_rfl) (by kernel_rfl) (by kernel_rfl) (by kernel_rfl) 300 (by kernel_rfl) ?_
 refine At.region (ops := opn12_0) (m := 2) (k' := kn12_0) (by kernel_rfl) 300 (k'' := pn12_1) (by kernel_rfl) ?_
 refine SOps.pures 2 (i' := 2) (m' := 0) (e' := [(5, .slice none 0 0), (4, .int .i64 0), (0, .pointer none), (1, .int .i64 m)]) (by intro u; kernel_rfl) ?_
 refine SOps.nil (.inl rfl) ?_
 refine At.pick [0, 1] (e' := [(0, .pointer none), (1, .int .i64 m)]) (by kernel_rfl) ?_
 refine At.region (ops := opn12_1) (m := 3) (k' := kn12_1) (by kernel_rfl) 300 (k'' := pn12_2) (by kernel_rfl) ?_
 refine SOps.pures 1 (i' := 1) (m' := 2) (e' := [(13, .int .i64 m), (0, .pointer none), (1, .int .i64 m)]) (by intro u; kernel_rfl) ?_
 refine SOps.o (Op.callS 14 20 #[.int .i64 m] (.int .i64 (m % 10080)) [] (B := []) (D := []) (by intro u; kernel_rfl) (within m) (by first | exact .inr rfl | exact .inl rfl) (by kernel_rfl) ?_)
 refine SOps.pures 1 (i' := 3) (m' := 0) (e' := [(6, .int .i64 (m % 10080)), (14, .int .i64 (m % 10080)), (13, .int .i64 m), (0, .pointer none), (1, .int .i64 m)]) (by intro u; kernel_rfl) ?_
 refine SOps.nil (.inl rfl) ?_
 refine At.pick [0, 6] (e' := [(0, .pointer none), (6, .int .i64 (m % 10080))]) (by kernel_rfl) ?_
 refine At.region (ops := opn12_2) (m := 1) (k' := kn12_2) (by kernel_rfl) 300 (k'' := pn12_3) (by kernel_rfl) ?_
 refine SOps.pures 1 (i' := 1) (m' := 0) (e' := [(7, .int .i64 0), (0, .pointer none), (6, .int .i64 (m % 10080))]) (by intro u; kernel_rfl) ?_
 refine SOps.nil (.inl rfl) ?_
 refine At.pick [0, 6, 7] (e' := [(0, .pointer none), (6, .int .i64 (m % 10080)), (7, .int .i64 0)]) (by kernel_rfl) ?_
 refine At.region (ops := opn12_3) (m := 4) (k' := kn12_4) (by kernel_rfl) 300 (k'' := pn12_4) (by kernel_rfl) ?_
 refine SOps.pures 1 (i' := 1) (m' := 3) (e' := [(15, .pointer none), (0, .pointer none), (6, .int .i64 (m % 10080)), (7, .int .i64 0)]) (by intro u; kernel_rfl) ?_
 refine SOps.o (Op.callS 16 8 #[.pointer none] (.slice none 0 0) [] (B := []) (D := []) (by intro u; kernel_rfl) (allN ) (by first | exact .inr rfl | exact .inl rfl) (by kernel_rfl) ?_)
 refine SOps.pures 2 (i' := 4) (m' := 0) (e' := [(18, .int .i64 0), (17, .int .i64 0), (16, .slice none 0 0), (15, .pointer none), (0, .pointer none), (6, .int .i64 (m % 10080)), (7, .int .i64 0)]) (by intro u; kernel_rfl) ?_
 refine SOps.nil (.inl rfl) ?_
 refine At.pick [0, 6, 7, 16, 17, 18] (e' := [(0, .pointer none), (6, .int .i64 (m % 10080)), (7, .int .i64 0), (16, .slice none 0 0), (17, .int .i64 0), (18, .int .i64 0)]) (by kernel_rfl) ?_
 refine At.region (ops := opn12_4) (m := 1) (k' := kn12_7) (by kernel_rfl) 300 (k'' := pn12_5) (by kernel_rfl) ?_
 refine SOps.pures 1 (i' := 1) (m' := 0) (e' := [(19, .bool false), (0, .pointer none), (6, .int .i64 (m % 10080)), (7, .int .i64 0), (16, .slice none 0 0), (17, .int .i64 0), (18, .int .i64 0)]) (by intro u; kernel_rfl) ?_
 refine SOps.nil (.inl rfl) ?_
 refine At.pick [0, 6, 7, 16, 17, 18, 19] (e' := [(0, .pointer none), (6, .int .i64 (m % 10080)), (7, .int .i64 0), (16, .slice none 0 0), (17, .int .i64 0), (18, .int .i64 0), (19, .bool false)]) (by kernel_rfl) ?_
 refine At.cond 300 false (c := .tmp 19) (k1 := pn12_6) (k2 := pn12_7) (by kernel_rfl) (by intro u; kernel_rfl) (fun h => by cases h) (fun _ => ?_)
 refine At.pick [0, 6, 7] (e' := [(0, .pointer none), (6, .int .i64 (m % 10080)), (7, .int .i64 0)]) (by kernel_rfl) ?_
 refine At.region (ops := opn12_7) (m := 2) (k' := kn12_13) (by kernel_rfl) 300 (k'' := pn12_8) (by kernel_rfl) ?_
 refine SOps.pures 2 (i' := 2) (m' := 0) (e' := [(52, .bool true), (51, .int .i64 0), (0, .pointer none), (6, .int .i64 (m % 10080)), (7, .int .i64 0)]) (by intro u; kernel_rfl) ?_
 refine SOps.nil (.inl rfl) ?_
 refine At.pick [0, 6, 7, 52] (e' := [(0, .pointer none), (6, .int .i64 (m % 10080)), (7, .int .i64 0), (52, .bool true)]) (by kernel_rfl) ?_
 refine At.cond 300 true (c := .tmp 52) (k1 := pn12_9) (k2 := pn12_10) (by kernel_rfl) (by intro u; kernel_rfl) (fun _ => ?_) (fun h => by cases h)
 refine At.pick [] (e' := []) (by kernel_rfl) ?_
 refine At.region (ops := opn12_9) (m := 2) (k' := kn12_14) (by kernel_rfl) 300 (k'' := pn12_11) (by kernel_rfl) ?_
 refine SOps.pures 2 (i' := 2) (m' := 0) (e' := [(5, .slice none 0 0), (4, .int .i64 0)]) (by intro u; kernel_rfl) ?_
 refine SOps.nil (.inl rfl) ?_
 refine At.pick [4, 5] (e' := [(4, .int .i64 0), (5, .slice none 0 0)]) (by kernel_rfl) ?_
 refine At.ret2 (fn := Try.f12) (v := .int .i64 0) (u := .slice none 0 0) (t := 4) (s := 5) (by kernel_rfl) Try.func12 (by kernel_rfl) (by kernel_rfl) (by kernel_rfl) (fun F w ho => ?_)
 exact shutV rfl [] rfl ho
noncomputable def bd6 : Code := (Try.f6.body).getD .skip
noncomputable def kt6_0 : List Item := .code (pick [1] bd6) :: []
noncomputable def pt6_0 : List Item := .code (pick [0] bd6) :: kt6_0
noncomputable def opt6_0 : Array Oper := opsOf (pick [0] bd6)
noncomputable def kt6_1 : List Item := .code (pick [1, 1] bd6) :: []
noncomputable def pt6_1 : List Item := .code (pick [1, 0] bd6) :: kt6_1
noncomputable def opt6_1 : Array Oper := opsOf (pick [1, 0] bd6)
noncomputable def kt6_2 : List Item := .code (pick [1, 1, 1] bd6) :: []
noncomputable def pt6_2 : List Item := .code (pick [1, 1, 0] bd6) :: kt6_2
noncomputable def opt6_2 : Array Oper := opsOf (pick [1, 1, 0] bd6)
noncomputable def kt6_3 : List Item := .code (pick [1, 1, 1, 1] bd6) :: []
noncomputable def pt6_3 : List Item := .code (pick [1, 1, 1, 0] bd6) :: kt6_3
noncomputable def opt6_3 : Array Oper := opsOf (pick [1, 1, 1, 0] bd6)
noncomputable def kt6_4 : List Item := .code (pick [1, 1, 1, 1, 1] bd6) :: []
noncomputable def pt6_4 : List Item := .code (pick [1, 1, 1, 1, 0] bd6) :: kt6_4
noncomputable def opt6_4 : Array Oper := opsOf (pick [1, 1, 1, 1, 0] bd6)
noncomputable def kt6_5 : List Item := .code (pick [1, 1, 1, 1, 1, 1] bd6) :: []
noncomputable def pt6_5 : List Item := .code (pick [1, 1, 1, 1, 1, 0] bd6) :: kt6_5
noncomputable def opt6_5 : Array Oper := opsOf (pick [1, 1, 1, 1, 1, 0] bd6)
noncomputable def kt6_6 : List Item := .code (pick [1, 1, 1, 1, 1, 1, 1] bd6) :: []
noncomputable def pt6_6 : List Item := .code (pick [1, 1, 1, 1, 1, 1, 0] bd6) :: kt6_6
noncomputable def opt6_6 : Array Oper := opsOf (pick [1, 1, 1, 1, 1, 1, 0] bd6)
noncomputable def kt6_7 : List Item := .code (pick [1, 1, 1, 1, 1, 1, 1, 1] bd6) :: []
noncomputable def pt6_7 : List Item := .code (pick [1, 1, 1, 1, 1, 1, 1, 0] bd6) :: kt6_7
noncomputable def opt6_7 : Array Oper := opsOf (pick [1, 1, 1, 1, 1, 1, 1, 0] bd6)
noncomputable def pt6_8 : List Item := .code (pick [1, 1, 1, 1, 1, 1, 1, 1] bd6) :: []
theorem fixedW  : Ctr Try.prog 6 #[] [] (fun v' => star (fact (v' = .bool true) :: [])) false := by
 refine spec_of_at (fn := Try.f6) (c := bd6) (args := []) (n := 99) (e := []) (k := pt6_0) Try.func6 (by kernel_rfl) (by kernel_rfl) (by kernel_rfl) (by kernel_rfl) 300 (by kernel_rfl) ?_
 refine At.region (ops := opt6_0) (m := 1) (k' := kt6_0) (by kernel_rfl) 300 (k'' := pt6_1) (by kernel_rfl) ?_
 refine SOps.pures 1 (i' := 1) (m' := 0) (e' := [(0, .bool false)]) (by intro u; kernel_rfl) ?_
 refine SOps.nil (.inl rfl) ?_
 refine At.pick [] (e' := []) (by kernel_rfl) ?_
 refine At.region (ops := opt6_1) (m := 2) (k' := kt6_1) (by kernel_rfl) 300 (k'' := pt6_2) (by kernel_rfl) ?_
 refine SOps.o (Op.callX 9 14 #[] _ _ [] (B := []) (D := []) (by intro u; kernel_rfl) (newS) (by first | exact .inr rfl | exact .inl rfl) (by kernel_rfl) ?_)
 rintro sx1 -
 refine SOps.pures 1 (i' := 2) (m' := 0) (e' := [(1, .pointer (some ⟨sx1, 0, none⟩)), (9, .pointer (some ⟨sx1, 0, none⟩))]) (by intro u; kernel_rfl) ?_
 refine SOps.nil (.inl rfl) ?_
 refine At.pick [1] (e' := [(1, .pointer (some ⟨sx1, 0, none⟩))]) (by kernel_rfl) ?_
 refine At.region (ops := opt6_2) (m := 4) (k' := kt6_2) (by kernel_rfl) 300 (k'' := pt6_3) (by kernel_rfl) ?_
 refine SOps.pures 2 (i' := 2) (m' := 2) (e' := [(11, .agg #[.int .i64 4, .int .i64 420, .int .i64 1, .bool false]), (10, .pointer (some ⟨sx1, 0, none⟩)), (1, .pointer (some ⟨sx1, 0, none⟩))]) (by intro u; kernel_rfl) ?_
 have hc := addS sx1 ([]) good_nil al4
 rw [x1, x2] at hc
 refine SOps.o (Op.callS 12 15 #[.pointer (some ⟨sx1, 0, none⟩), .agg #[.int .i64 4, .int .i64 420, .int .i64 1, .bool false]] (.int .i64 0) [0] (B := [SetC sx1 ([])]) (D := []) (by intro u; kernel_rfl) (hc) (by first | exact .inr rfl | exact .inl rfl) (by kernel_rfl) ?_)
 refine SOps.pures 1 (i' := 4) (m' := 0) (e' := [(2, .int .i64 0), (12, .int .i64 0), (11, .agg #[.int .i64 4, .int .i64 420, .int .i64 1, .bool false]), (10, .pointer (some ⟨sx1, 0, none⟩)), (1, .pointer (some ⟨sx1, 0, none⟩))]) (by intro u; kernel_rfl) ?_
 refine SOps.nil (.inl rfl) ?_
 refine At.pick [1, 2] (e' := [(1, .pointer (some ⟨sx1, 0, none⟩)), (2, .int .i64 0)]) (by kernel_rfl) ?_
 refine At.region (ops := opt6_3) (m := 7) (k' := kt6_3) (by kernel_rfl) 300 (k'' := pt6_4) (by kernel_rfl) ?_
 refine SOps.pures 1 (i' := 1) (m' := 6) (e' := [(14, .pointer (some ⟨sx1, 0, none⟩)), (1, .pointer (some ⟨sx1, 0, none⟩)), (2, .int .i64 0)]) (by intro u; kernel_rfl) ?_
 have hc := nextS sx1 ([al4]) g1 9060
 rw [x3, x4] at hc
 refine SOps.o (Op.callX 15 12 #[.pointer (some ⟨sx1, 0, none⟩), .int .i64 9060] _ _ [0] (B := [SetC sx1 ([al4])]) (D := []) (by intro u; kernel_rfl) (hc) (by first | exact .inr rfl | exact .inl rfl) (by kernel_rfl) ?_)
 rintro ⟨Sx2, cx3⟩ -
 refine SOps.pures 5 (i' := 7) (m' := 0) (e' := [(4, .slice Sx2 1 cx3), (3, .int .i64 1440), (17, .slice Sx2 1 cx3), (16, .int .i64 1440), (13, .tuple #[.int .i64 1440, .slice Sx2 1 cx3]), (15, .tuple #[.int .i64 1440, .slice Sx2 1 cx3]), (14, .pointer (some ⟨sx1, 0, none⟩)), (1, .pointer (some ⟨sx1, 0, none⟩)), (2, .int .i64 0)]) (by intro u; kernel_rfl) ?_
 refine SOps.nil (.inl rfl) ?_
 refine At.pick [1, 2, 3, 4] (e' := [(1, .pointer (some ⟨sx1, 0, none⟩)), (2, .int .i64 0), (3, .int .i64 1440), (4, .slice Sx2 1 cx3)]) (by kernel_rfl) ?_
 refine At.region (ops := opt6_4) (m := 3) (k' := kt6_4) (by kernel_rfl) 300 (k'' := pt6_5) (by kernel_rfl) ?_
 refine SOps.pures 1 (i' := 1) (m' := 2) (e' := [(18, .pointer (some ⟨sx1, 0, none⟩)), (1, .pointer (some ⟨sx1, 0, none⟩)), (2, .int .i64 0), (3, .int .i64 1440), (4, .slice Sx2 1 cx3)]) (by intro u; kernel_rfl) ?_
 have hc := ringsS sx1 ([al4]) g1 (-9660)
 rw [x5] at hc
 refine SOps.o (Op.callX 19 10 #[.pointer (some ⟨sx1, 0, none⟩), .int .i64 (-9660)] _ _ [1] (B := [SetC sx1 ([al4])]) (D := [Grow Sx2 cx3 3 1 1 (ints ([4] : List Int))]) (by intro u; kernel_rfl) (hc) (by first | exact .inr rfl | exact .inl rfl) (by kernel_rfl) ?_)
 rintro ⟨Sx4, cx5⟩ -
 refine SOps.pures 1 (i' := 3) (m' := 0) (e' := [(5, .slice Sx4 1 cx5), (19, .slice Sx4 1 cx5), (18, .pointer (some ⟨sx1, 0, none⟩)), (1, .pointer (some ⟨sx1, 0, none⟩)), (2, .int .i64 0), (3, .int .i64 1440), (4, .slice Sx2 1 cx3)]) (by intro u; kernel_rfl) ?_
 refine SOps.nil (.inl rfl) ?_
 refine At.pick [1, 2, 3, 4, 5] (e' := [(1, .pointer (some ⟨sx1, 0, none⟩)), (2, .int .i64 0), (3, .int .i64 1440), (4, .slice Sx2 1 cx3), (5, .slice Sx4 1 cx5)]) (by kernel_rfl) ?_
 refine At.region (ops := opt6_5) (m := 1) (k' := kt6_5) (by kernel_rfl) 300 (k'' := pt6_6) (by kernel_rfl) ?_
 refine SOps.pures 1 (i' := 1) (m' := 0) (e' := [(6, .pointer none), (1, .pointer (some ⟨sx1, 0, none⟩)), (2, .int .i64 0), (3, .int .i64 1440), (4, .slice Sx2 1 cx3), (5, .slice Sx4 1 cx5)]) (by intro u; kernel_rfl) ?_
 refine SOps.nil (.inl rfl) ?_
 refine At.pick [1, 2, 3, 4, 5, 6] (e' := [(1, .pointer (some ⟨sx1, 0, none⟩)), (2, .int .i64 0), (3, .int .i64 1440), (4, .slice Sx2 1 cx3), (5, .slice Sx4 1 cx5), (6, .pointer none)]) (by kernel_rfl) ?_
 refine At.region (ops := opt6_6) (m := 7) (k' := kt6_6) (by kernel_rfl) 300 (k'' := pt6_7) (by kernel_rfl) ?_
 refine SOps.pures 1 (i' := 1) (m' := 6) (e' := [(21, .pointer none), (1, .pointer (some ⟨sx1, 0, none⟩)), (2, .int .i64 0), (3, .int .i64 1440), (4, .slice Sx2 1 cx3), (5, .slice Sx4 1 cx5), (6, .pointer none)]) (by intro u; kernel_rfl) ?_
 refine SOps.o (Op.callS 22 12 #[.pointer none, .int .i64 0] (.tuple #[.int .i64 0, .slice none 0 0]) [] (B := []) (D := [Grow Sx4 cx5 3 1 1 (ints ([4] : List Int)), SetC sx1 ([al4]), Grow Sx2 cx3 3 1 1 (ints ([4] : List Int))]) (by intro u; kernel_rfl) (nextN0 0) (by first | exact .inr rfl | exact .inl rfl) (by kernel_rfl) ?_)
 refine SOps.pures 5 (i' := 7) (m' := 0) (e' := [(8, .slice none 0 0), (7, .int .i64 0), (24, .slice none 0 0), (23, .int .i64 0), (20, .tuple #[.int .i64 0, .slice none 0 0]), (22, .tuple #[.int .i64 0, .slice none 0 0]), (21, .pointer none), (1, .pointer (some ⟨sx1, 0, none⟩)), (2, .int .i64 0), (3, .int .i64 1440), (4, .slice Sx2 1 cx3), (5, .slice Sx4 1 cx5), (6, .pointer none)]) (by intro u; kernel_rfl) ?_
 refine SOps.nil (.inl rfl) ?_
 refine At.pick [1, 2, 3, 4, 5, 6, 7, 8] (e' := [(1, .pointer (some ⟨sx1, 0, none⟩)), (2, .int .i64 0), (3, .int .i64 1440), (4, .slice Sx2 1 cx3), (5, .slice Sx4 1 cx5), (6, .pointer none), (7, .int .i64 0), (8, .slice none 0 0)]) (by kernel_rfl) ?_
 refine At.region (ops := opt6_7) (m := 75) (k' := kt6_7) (by kernel_rfl) 300 (k'' := pt6_8) (by kernel_rfl) ?_
 refine SOps.pures 13 (i' := 13) (m' := 62) (e' := [(37, .slice Sx2 1 cx3), (36, .bool true), (35, .bool true), (34, .bool true), (33, .int .i64 1), (32, .slice Sx2 1 cx3), (31, .bool true), (30, .bool true), (29, .bool true), (28, .int .i64 1440), (27, .bool true), (26, .bool true), (25, .int .i64 0), (1, .pointer (some ⟨sx1, 0, none⟩)), (2, .int .i64 0), (3, .int .i64 1440), (4, .slice Sx2 1 cx3), (5, .slice Sx4 1 cx5), (6, .pointer none), (7, .int .i64 0), (8, .slice none 0 0)]) (by intro u; kernel_rfl) ?_
 refine SOps.learn (fun F w ho => Grow.some (j := 2) ho rfl) (fun hSx2 => ?_)
 refine SOps.v (Val.pv 38 (vN (Instr.indexAt 32 (.slice Sx2 1 cx3) (.int .i64 0))) (.pointer (some ⟨(blk Sx2), 0, none⟩)) (by intro u; kernel_rfl) (pv_indexO (el := 3) (sz := 1) (by kernel_rfl) (by kernel_rfl) (by omega) (by omega) (hSx2.1 (by omega)) (by omega))) ?_
 refine SOps.v (Val.ld1 2 39 3 (blk Sx2) 0 (.int .i64 4) rfl (by intro u; kernel_rfl) (by kernel_rfl) (Rd.grow rfl)) ?_
 refine SOps.pures 9 (i' := 24) (m' := 51) (e' := [(48, .pointer (some ⟨sx1, 0, none⟩)), (47, .bool true), (46, .bool true), (45, .bool true), (44, .int .i64 1), (43, .slice Sx4 1 cx5), (42, .bool true), (41, .bool true), (40, .bool true), (39, .int .i64 4), (38, .pointer (some ⟨(blk Sx2), 0, none⟩)), (37, .slice Sx2 1 cx3), (36, .bool true), (35, .bool true), (34, .bool true), (33, .int .i64 1), (32, .slice Sx2 1 cx3), (31, .bool true), (30, .bool true), (29, .bool true), (28, .int .i64 1440), (27, .bool true), (26, .bool true), (25, .int .i64 0), (1, .pointer (some ⟨sx1, 0, none⟩)), (2, .int .i64 0), (3, .int .i64 1440), (4, .slice Sx2 1 cx3), (5, .slice Sx4 1 cx5), (6, .pointer none), (7, .int .i64 0), (8, .slice none 0 0)]) (by intro u; kernel_rfl) ?_
 have hc := betweenS sx1 ([al4]) g1 0 20160 20160 (by omega) (.inl rfl) (by omega)
 rw [x17] at hc
 refine SOps.o (Op.callX 49 13 #[.pointer (some ⟨sx1, 0, none⟩), .int .i64 0, .int .i64 20160] _ _ [1] (B := [SetC sx1 ([al4])]) (D := [Grow Sx4 cx5 3 1 1 (ints ([4] : List Int)), Grow Sx2 cx3 3 1 1 (ints ([4] : List Int))]) (by intro u; kernel_rfl) (hc) (by first | exact .inr rfl | exact .inl rfl) (by kernel_rfl) ?_)
 rintro ⟨Sx6, cx7⟩ -
 refine SOps.pures 6 (i' := 31) (m' := 44) (e' := [(55, .agg #[.int .i64 4, .int .i64 0, .int .i64 1, .bool false]), (54, .pointer (some ⟨sx1, 0, none⟩)), (53, .bool true), (52, .bool true), (51, .bool true), (50, .int .i64 2), (49, .slice Sx6 2 cx7), (48, .pointer (some ⟨sx1, 0, none⟩)), (47, .bool true), (46, .bool true), (45, .bool true), (44, .int .i64 1), (43, .slice Sx4 1 cx5), (42, .bool true), (41, .bool true), (40, .bool true), (39, .int .i64 4), (38, .pointer (some ⟨(blk Sx2), 0, none⟩)), (37, .slice Sx2 1 cx3), (36, .bool true), (35, .bool true), (34, .bool true), (33, .int .i64 1), (32, .slice Sx2 1 cx3), (31, .bool true), (30, .bool true), (29, .bool true), (28, .int .i64 1440), (27, .bool true), (26, .bool true), (25, .int .i64 0), (1, .pointer (some ⟨sx1, 0, none⟩)), (2, .int .i64 0), (3, .int .i64 1440), (4, .slice Sx2 1 cx3), (5, .slice Sx4 1 cx5), (6, .pointer none), (7, .int .i64 0), (8, .slice none 0 0)]) (by intro u; kernel_rfl) ?_
 have hc := addS sx1 ([al4]) g1 (⟨4, 0, 1, false⟩ : Alarm)
 rw [x6, x7] at hc
 refine SOps.o (Op.callS 56 15 #[.pointer (some ⟨sx1, 0, none⟩), .agg #[.int .i64 4, .int .i64 0, .int .i64 1, .bool false]] (.int .i64 9) [1] (B := [SetC sx1 ([al4])]) (D := [Grow Sx6 cx7 3 1 2 (ints ([4, 4] : List Int)), Grow Sx4 cx5 3 1 1 (ints ([4] : List Int)), Grow Sx2 cx3 3 1 1 (ints ([4] : List Int))]) (by intro u; kernel_rfl) (hc) (by first | exact .inr rfl | exact .inl rfl) (by kernel_rfl) ?_)
 refine SOps.pures 5 (i' := 37) (m' := 38) (e' := [(61, .agg #[.int .i64 0, .int .i64 0, .int .i64 128, .bool false]), (60, .pointer (some ⟨sx1, 0, none⟩)), (59, .bool true), (58, .bool true), (57, .bool true), (56, .int .i64 9), (55, .agg #[.int .i64 4, .int .i64 0, .int .i64 1, .bool false]), (54, .pointer (some ⟨sx1, 0, none⟩)), (53, .bool true), (52, .bool true), (51, .bool true), (50, .int .i64 2), (49, .slice Sx6 2 cx7), (48, .pointer (some ⟨sx1, 0, none⟩)), (47, .bool true), (46, .bool true), (45, .bool true), (44, .int .i64 1), (43, .slice Sx4 1 cx5), (42, .bool true), (41, .bool true), (40, .bool true), (39, .int .i64 4), (38, .pointer (some ⟨(blk Sx2), 0, none⟩)), (37, .slice Sx2 1 cx3), (36, .bool true), (35, .bool true), (34, .bool true), (33, .int .i64 1), (32, .slice Sx2 1 cx3), (31, .bool true), (30, .bool true), (29, .bool true), (28, .int .i64 1440), (27, .bool true), (26, .bool true), (25, .int .i64 0), (1, .pointer (some ⟨sx1, 0, none⟩)), (2, .int .i64 0), (3, .int .i64 1440), (4, .slice Sx2 1 cx3), (5, .slice Sx4 1 cx5), (6, .pointer none), (7, .int .i64 0), (8, .slice none 0 0)]) (by intro u; kernel_rfl) ?_
 have hc := addS sx1 ([al4]) g1 (⟨0, 0, 128, false⟩ : Alarm)
 rw [x8, x9] at hc
 refine SOps.o (Op.callS 62 15 #[.pointer (some ⟨sx1, 0, none⟩), .agg #[.int .i64 0, .int .i64 0, .int .i64 128, .bool false]] (.int .i64 2) [0] (B := [SetC sx1 ([al4])]) (D := [Grow Sx6 cx7 3 1 2 (ints ([4, 4] : List Int)), Grow Sx4 cx5 3 1 1 (ints ([4] : List Int)), Grow Sx2 cx3 3 1 1 (ints ([4] : List Int))]) (by intro u; kernel_rfl) (hc) (by first | exact .inr rfl | exact .inl rfl) (by kernel_rfl) ?_)
 refine SOps.pures 4 (i' := 42) (m' := 33) (e' := [(66, .pointer (some ⟨sx1, 0, none⟩)), (65, .bool true), (64, .bool true), (63, .bool true), (62, .int .i64 2), (61, .agg #[.int .i64 0, .int .i64 0, .int .i64 128, .bool false]), (60, .pointer (some ⟨sx1, 0, none⟩)), (59, .bool true), (58, .bool true), (57, .bool true), (56, .int .i64 9), (55, .agg #[.int .i64 4, .int .i64 0, .int .i64 1, .bool false]), (54, .pointer (some ⟨sx1, 0, none⟩)), (53, .bool true), (52, .bool true), (51, .bool true), (50, .int .i64 2), (49, .slice Sx6 2 cx7), (48, .pointer (some ⟨sx1, 0, none⟩)), (47, .bool true), (46, .bool true), (45, .bool true), (44, .int .i64 1), (43, .slice Sx4 1 cx5), (42, .bool true), (41, .bool true), (40, .bool true), (39, .int .i64 4), (38, .pointer (some ⟨(blk Sx2), 0, none⟩)), (37, .slice Sx2 1 cx3), (36, .bool true), (35, .bool true), (34, .bool true), (33, .int .i64 1), (32, .slice Sx2 1 cx3), (31, .bool true), (30, .bool true), (29, .bool true), (28, .int .i64 1440), (27, .bool true), (26, .bool true), (25, .int .i64 0), (1, .pointer (some ⟨sx1, 0, none⟩)), (2, .int .i64 0), (3, .int .i64 1440), (4, .slice Sx2 1 cx3), (5, .slice Sx4 1 cx5), (6, .pointer none), (7, .int .i64 0), (8, .slice none 0 0)]) (by intro u; kernel_rfl) ?_
 have hc := switchS sx1 [al4] g1 4 true
 rw [x10, x11] at hc
 refine SOps.o (Op.callS 67 16 #[.pointer (some ⟨sx1, 0, none⟩), .int .i64 4, .bool true] (.bool true) [0] (B := [SetC sx1 ([al4])]) (D := [Grow Sx6 cx7 3 1 2 (ints ([4, 4] : List Int)), Grow Sx4 cx5 3 1 1 (ints ([4] : List Int)), Grow Sx2 cx3 3 1 1 (ints ([4] : List Int))]) (by intro u; kernel_rfl) (hc) (by first | exact .inr rfl | exact .inl rfl) (by kernel_rfl) ?_)
 refine SOps.pures 3 (i' := 46) (m' := 29) (e' := [(70, .pointer (some ⟨sx1, 0, none⟩)), (69, .bool true), (68, .bool true), (67, .bool true), (66, .pointer (some ⟨sx1, 0, none⟩)), (65, .bool true), (64, .bool true), (63, .bool true), (62, .int .i64 2), (61, .agg #[.int .i64 0, .int .i64 0, .int .i64 128, .bool false]), (60, .pointer (some ⟨sx1, 0, none⟩)), (59, .bool true), (58, .bool true), (57, .bool true), (56, .int .i64 9), (55, .agg #[.int .i64 4, .int .i64 0, .int .i64 1, .bool false]), (54, .pointer (some ⟨sx1, 0, none⟩)), (53, .bool true), (52, .bool true), (51, .bool true), (50, .int .i64 2), (49, .slice Sx6 2 cx7), (48, .pointer (some ⟨sx1, 0, none⟩)), (47, .bool true), (46, .bool true), (45, .bool true), (44, .int .i64 1), (43, .slice Sx4 1 cx5), (42, .bool true), (41, .bool true), (40, .bool true), (39, .int .i64 4), (38, .pointer (some ⟨(blk Sx2), 0, none⟩)), (37, .slice Sx2 1 cx3), (36, .bool true), (35, .bool true), (34, .bool true), (33, .int .i64 1), (32, .slice Sx2 1 cx3), (31, .bool true), (30, .bool true), (29, .bool true), (28, .int .i64 1440), (27, .bool true), (26, .bool true), (25, .int .i64 0), (1, .pointer (some ⟨sx1, 0, none⟩)), (2, .int .i64 0), (3, .int .i64 1440), (4, .slice Sx2 1 cx3), (5, .slice Sx4 1 cx5), (6, .pointer none), (7, .int .i64 0), (8, .slice none 0 0)]) (by intro u; kernel_rfl) ?_
 have hc := ringsS sx1 ([al4o]) g2 420
 rw [x12] at hc
 refine SOps.o (Op.callX 71 10 #[.pointer (some ⟨sx1, 0, none⟩), .int .i64 420] _ _ [0] (B := [SetC sx1 ([al4o])]) (D := [Grow Sx6 cx7 3 1 2 (ints ([4, 4] : List Int)), Grow Sx4 cx5 3 1 1 (ints ([4] : List Int)), Grow Sx2 cx3 3 1 1 (ints ([4] : List Int))]) (by intro u; kernel_rfl) (hc) (by first | exact .inr rfl | exact .inl rfl) (by kernel_rfl) ?_)
 rintro ⟨Sx8, cx9⟩ -
 refine SOps.pures 5 (i' := 52) (m' := 23) (e' := [(76, .pointer (some ⟨sx1, 0, none⟩)), (75, .bool true), (74, .bool true), (73, .bool true), (72, .int .i64 0), (71, .slice Sx8 0 cx9), (70, .pointer (some ⟨sx1, 0, none⟩)), (69, .bool true), (68, .bool true), (67, .bool true), (66, .pointer (some ⟨sx1, 0, none⟩)), (65, .bool true), (64, .bool true), (63, .bool true), (62, .int .i64 2), (61, .agg #[.int .i64 0, .int .i64 0, .int .i64 128, .bool false]), (60, .pointer (some ⟨sx1, 0, none⟩)), (59, .bool true), (58, .bool true), (57, .bool true), (56, .int .i64 9), (55, .agg #[.int .i64 4, .int .i64 0, .int .i64 1, .bool false]), (54, .pointer (some ⟨sx1, 0, none⟩)), (53, .bool true), (52, .bool true), (51, .bool true), (50, .int .i64 2), (49, .slice Sx6 2 cx7), (48, .pointer (some ⟨sx1, 0, none⟩)), (47, .bool true), (46, .bool true), (45, .bool true), (44, .int .i64 1), (43, .slice Sx4 1 cx5), (42, .bool true), (41, .bool true), (40, .bool true), (39, .int .i64 4), (38, .pointer (some ⟨(blk Sx2), 0, none⟩)), (37, .slice Sx2 1 cx3), (36, .bool true), (35, .bool true), (34, .bool true), (33, .int .i64 1), (32, .slice Sx2 1 cx3), (31, .bool true), (30, .bool true), (29, .bool true), (28, .int .i64 1440), (27, .bool true), (26, .bool true), (25, .int .i64 0), (1, .pointer (some ⟨sx1, 0, none⟩)), (2, .int .i64 0), (3, .int .i64 1440), (4, .slice Sx2 1 cx3), (5, .slice Sx4 1 cx5), (6, .pointer none), (7, .int .i64 0), (8, .slice none 0 0)]) (by intro u; kernel_rfl) ?_
 have hc := dropS sx1 ([al4o]) g2 4
 rw [x13, x14] at hc
 refine SOps.o (Op.callS 77 17 #[.pointer (some ⟨sx1, 0, none⟩), .int .i64 4] (.bool true) [1] (B := [SetC sx1 ([al4o])]) (D := [Grow Sx8 cx9 3 1 0 (ints ([] : List Int)), Grow Sx6 cx7 3 1 2 (ints ([4, 4] : List Int)), Grow Sx4 cx5 3 1 1 (ints ([4] : List Int)), Grow Sx2 cx3 3 1 1 (ints ([4] : List Int))]) (by intro u; kernel_rfl) (hc) (by first | exact .inr rfl | exact .inl rfl) (by kernel_rfl) ?_)
 refine SOps.pures 3 (i' := 56) (m' := 19) (e' := [(80, .pointer (some ⟨sx1, 0, none⟩)), (79, .bool true), (78, .bool true), (77, .bool true), (76, .pointer (some ⟨sx1, 0, none⟩)), (75, .bool true), (74, .bool true), (73, .bool true), (72, .int .i64 0), (71, .slice Sx8 0 cx9), (70, .pointer (some ⟨sx1, 0, none⟩)), (69, .bool true), (68, .bool true), (67, .bool true), (66, .pointer (some ⟨sx1, 0, none⟩)), (65, .bool true), (64, .bool true), (63, .bool true), (62, .int .i64 2), (61, .agg #[.int .i64 0, .int .i64 0, .int .i64 128, .bool false]), (60, .pointer (some ⟨sx1, 0, none⟩)), (59, .bool true), (58, .bool true), (57, .bool true), (56, .int .i64 9), (55, .agg #[.int .i64 4, .int .i64 0, .int .i64 1, .bool false]), (54, .pointer (some ⟨sx1, 0, none⟩)), (53, .bool true), (52, .bool true), (51, .bool true), (50, .int .i64 2), (49, .slice Sx6 2 cx7), (48, .pointer (some ⟨sx1, 0, none⟩)), (47, .bool true), (46, .bool true), (45, .bool true), (44, .int .i64 1), (43, .slice Sx4 1 cx5), (42, .bool true), (41, .bool true), (40, .bool true), (39, .int .i64 4), (38, .pointer (some ⟨(blk Sx2), 0, none⟩)), (37, .slice Sx2 1 cx3), (36, .bool true), (35, .bool true), (34, .bool true), (33, .int .i64 1), (32, .slice Sx2 1 cx3), (31, .bool true), (30, .bool true), (29, .bool true), (28, .int .i64 1440), (27, .bool true), (26, .bool true), (25, .int .i64 0), (1, .pointer (some ⟨sx1, 0, none⟩)), (2, .int .i64 0), (3, .int .i64 1440), (4, .slice Sx2 1 cx3), (5, .slice Sx4 1 cx5), (6, .pointer none), (7, .int .i64 0), (8, .slice none 0 0)]) (by intro u; kernel_rfl) ?_
 have hc := dropS sx1 ([]) good_nil 4
 rw [x15, x16] at hc
 refine SOps.o (Op.callS 81 17 #[.pointer (some ⟨sx1, 0, none⟩), .int .i64 4] (.bool false) [0] (B := [SetC sx1 ([])]) (D := [Grow Sx8 cx9 3 1 0 (ints ([] : List Int)), Grow Sx6 cx7 3 1 2 (ints ([4, 4] : List Int)), Grow Sx4 cx5 3 1 1 (ints ([4] : List Int)), Grow Sx2 cx3 3 1 1 (ints ([4] : List Int))]) (by intro u; kernel_rfl) (hc) (by first | exact .inr rfl | exact .inl rfl) (by kernel_rfl) ?_)
 refine SOps.pures 5 (i' := 62) (m' := 13) (e' := [(86, .agg #[.int .i64 0, .int .i64 0, .int .i64 0, .bool false]), (85, .pointer none), (84, .bool true), (83, .bool true), (82, .bool true), (81, .bool false), (80, .pointer (some ⟨sx1, 0, none⟩)), (79, .bool true), (78, .bool true), (77, .bool true), (76, .pointer (some ⟨sx1, 0, none⟩)), (75, .bool true), (74, .bool true), (73, .bool true), (72, .int .i64 0), (71, .slice Sx8 0 cx9), (70, .pointer (some ⟨sx1, 0, none⟩)), (69, .bool true), (68, .bool true), (67, .bool true), (66, .pointer (some ⟨sx1, 0, none⟩)), (65, .bool true), (64, .bool true), (63, .bool true), (62, .int .i64 2), (61, .agg #[.int .i64 0, .int .i64 0, .int .i64 128, .bool false]), (60, .pointer (some ⟨sx1, 0, none⟩)), (59, .bool true), (58, .bool true), (57, .bool true), (56, .int .i64 9), (55, .agg #[.int .i64 4, .int .i64 0, .int .i64 1, .bool false]), (54, .pointer (some ⟨sx1, 0, none⟩)), (53, .bool true), (52, .bool true), (51, .bool true), (50, .int .i64 2), (49, .slice Sx6 2 cx7), (48, .pointer (some ⟨sx1, 0, none⟩)), (47, .bool true), (46, .bool true), (45, .bool true), (44, .int .i64 1), (43, .slice Sx4 1 cx5), (42, .bool true), (41, .bool true), (40, .bool true), (39, .int .i64 4), (38, .pointer (some ⟨(blk Sx2), 0, none⟩)), (37, .slice Sx2 1 cx3), (36, .bool true), (35, .bool true), (34, .bool true), (33, .int .i64 1), (32, .slice Sx2 1 cx3), (31, .bool true), (30, .bool true), (29, .bool true), (28, .int .i64 1440), (27, .bool true), (26, .bool true), (25, .int .i64 0), (1, .pointer (some ⟨sx1, 0, none⟩)), (2, .int .i64 0), (3, .int .i64 1440), (4, .slice Sx2 1 cx3), (5, .slice Sx4 1 cx5), (6, .pointer none), (7, .int .i64 0), (8, .slice none 0 0)]) (by intro u; kernel_rfl) ?_
 refine SOps.o (Op.callS 87 15 #[.pointer none, .agg #[.int .i64 0, .int .i64 0, .int .i64 0, .bool false]] (.int .i64 1) [] (B := []) (D := [SetC sx1 ([]), Grow Sx8 cx9 3 1 0 (ints ([] : List Int)), Grow Sx6 cx7 3 1 2 (ints ([4, 4] : List Int)), Grow Sx4 cx5 3 1 1 (ints ([4] : List Int)), Grow Sx2 cx3 3 1 1 (ints ([4] : List Int))]) (by intro u; kernel_rfl) (addN (⟨0, 0, 0, false⟩ : Alarm)) (by first | exact .inr rfl | exact .inl rfl) (by kernel_rfl) ?_)
 refine SOps.pures 12 (i' := 75) (m' := 0) (e' := [(0, .bool true), (98, .bool true), (97, .bool true), (96, .int .i64 0), (95, .slice none 0 0), (94, .bool true), (93, .bool true), (92, .bool true), (91, .int .i64 0), (90, .bool true), (89, .bool true), (88, .bool true), (87, .int .i64 1), (86, .agg #[.int .i64 0, .int .i64 0, .int .i64 0, .bool false]), (85, .pointer none), (84, .bool true), (83, .bool true), (82, .bool true), (81, .bool false), (80, .pointer (some ⟨sx1, 0, none⟩)), (79, .bool true), (78, .bool true), (77, .bool true), (76, .pointer (some ⟨sx1, 0, none⟩)), (75, .bool true), (74, .bool true), (73, .bool true), (72, .int .i64 0), (71, .slice Sx8 0 cx9), (70, .pointer (some ⟨sx1, 0, none⟩)), (69, .bool true), (68, .bool true), (67, .bool true), (66, .pointer (some ⟨sx1, 0, none⟩)), (65, .bool true), (64, .bool true), (63, .bool true), (62, .int .i64 2), (61, .agg #[.int .i64 0, .int .i64 0, .int .i64 128, .bool false]), (60, .pointer (some ⟨sx1, 0, none⟩)), (59, .bool true), (58, .bool true), (57, .bool true), (56, .int .i64 9), (55, .agg #[.int .i64 4, .int .i64 0, .int .i64 1, .bool false]), (54, .pointer (some ⟨sx1, 0, none⟩)), (53, .bool true), (52, .bool true), (51, .bool true), (50, .int .i64 2), (49, .slice Sx6 2 cx7), (48, .pointer (some ⟨sx1, 0, none⟩)), (47, .bool true), (46, .bool true), (45, .bool true), (44, .int .i64 1), (43, .slice Sx4 1 cx5), (42, .bool true), (41, .bool true), (40, .bool true), (39, .int .i64 4), (38, .pointer (some ⟨(blk Sx2), 0, none⟩)), (37, .slice Sx2 1 cx3), (36, .bool true), (35, .bool true), (34, .bool true), (33, .int .i64 1), (32, .slice Sx2 1 cx3), (31, .bool true), (30, .bool true), (29, .bool true), (28, .int .i64 1440), (27, .bool true), (26, .bool true), (25, .int .i64 0), (1, .pointer (some ⟨sx1, 0, none⟩)), (2, .int .i64 0), (3, .int .i64 1440), (4, .slice Sx2 1 cx3), (5, .slice Sx4 1 cx5), (6, .pointer none), (7, .int .i64 0), (8, .slice none 0 0)]) (by intro u; kernel_rfl) ?_
 refine SOps.nil (.inl rfl) ?_
 refine At.pick [0] (e' := [(0, .bool true)]) (by kernel_rfl) ?_
 refine At.ret1 (fn := Try.f6) (v := .bool true) (t := 0) (by kernel_rfl) Try.func6 (by kernel_rfl) (by kernel_rfl) (fun F w ho => ?_)
 exact shutV rfl [] rfl ho
end Go.Proofs.Wk
