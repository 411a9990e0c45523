/- Weekly: an alarm. -/
import Derived.Test.YtiaapecdhcibnaaWkM
import Derived.Test.YtiaapecdhcibnaaProg
namespace Go.Proofs.Wk
open Go Go.Sp Go.Wk
set_option linter.unusedVariables false
set_option linter.unusedSimpArgs false
set_option linter.unnecessarySimpa false
set_option maxRecDepth 100000
theorem el_25 : ElemT Try.prog 25 30 4 32 [.int .i64 0, .int .i64 0, .int .i64 0, .bool false] := ⟨by kernel_rfl, _, _, (by kernel_rfl : _ = some Try.t30), (by kernel_rfl : _ = some (.agg #[.int .i64 0, .int .i64 0, .int .i64 0, .bool false])), by kernel_rfl, by kernel_rfl, rfl, rfl, by decide⟩
theorem el_32 : ElemT Try.prog 32 3 1 8 [.int .i64 0] := ⟨by kernel_rfl, _, _, (by kernel_rfl : _ = some Try.t3), (by kernel_rfl : _ = some (.int .i64 0)), by kernel_rfl, by kernel_rfl, rfl, rfl, by decide⟩
noncomputable def bd30 : Code := (Try.f30.body).getD .skip
noncomputable def kt30_0 : List Item := .code (pick [1] bd30) :: []
noncomputable def pt30_0 : List Item := .code (pick [0] bd30) :: kt30_0
noncomputable def opt30_0 : Array Oper := opsOf (pick [0] bd30)
noncomputable def kt30_1 : List Item := .code (pick [1, 1] bd30) :: []
noncomputable def pt30_1 : List Item := .code (pick [1, 0] bd30) :: kt30_1
noncomputable def opt30_1 : Array Oper := opsOf (pick [1, 0] bd30)
noncomputable def pt30_2 : List Item := .code (pick [1, 1] bd30) :: []
theorem isNaN (x : Int) : Ctr Try.prog 30 #[.int .i64 x] [] (fun v' => star (fact (v' = .bool false) :: [])) false := by
 refine spec_of_at (fn := Try.f30) (c := bd30) (args := [.int .i64 x]) (n := 6) (e := [(0, .int .i64 x)]) (k := pt30_0) Try.func30 (by kernel_rfl) (by kernel_rfl) (by kernel_rfl) (by kernel_rfl) 300 (by kernel_rfl) ?_
 refine At.region (ops := opt30_0) (m := 1) (k' := kt30_0) (by kernel_rfl) 300 (k'' := pt30_1) (by kernel_rfl) ?_
 refine SOps.pures 1 (i' := 1) (m' := 0) (e' := [(2, .bool false), (0, .int .i64 x)]) (by intro u; kernel_rfl) ?_
 refine SOps.nil (.inl rfl) ?_
 refine At.pick [0] (e' := [(0, .int .i64 x)]) (by kernel_rfl) ?_
 refine At.region (ops := opt30_1) (m := 4) (k' := kt30_1) (by kernel_rfl) 300 (k'' := pt30_2) (by kernel_rfl) ?_
 refine SOps.pures 4 (i' := 4) (m' := 0) (e' := [(2, .bool (x != x)), (5, .bool (x != x)), (4, .int .i64 x), (3, .int .i64 x), (0, .int .i64 x)]) (by intro u; kernel_rfl) ?_
 refine SOps.nil (.inl rfl) ?_
 refine At.pick [2] (e' := [(2, .bool (x != x))]) (by kernel_rfl) ?_
 refine At.ret1 (fn := Try.f30) (v := .bool (x != x)) (t := 2) (by kernel_rfl) Try.func30 (by kernel_rfl) (by kernel_rfl) (fun F w ho => ?_)
 exact shutV (by simp) [] rfl ho
noncomputable def bd27 : Code := (Try.f27.body).getD .skip
noncomputable def kt27_0 : List Item := .code (pick [1] bd27) :: []
noncomputable def pt27_0 : List Item := .code (pick [0] bd27) :: kt27_0
noncomputable def opt27_0 : Array Oper := opsOf (pick [0] bd27)
noncomputable def kt27_1 : List Item := .code (pick [1, 1] bd27) :: []
noncomputable def pt27_1 : List Item := .code (pick [1, 0] bd27) :: kt27_1
noncomputable def opt27_1 : Array Oper := opsOf (pick [1, 0] bd27)
noncomputable def kt27_2 : List Item := .code (pick [1, 1, 1] bd27) :: []
noncomputable def pt27_2 : List Item := .code (pick [1, 1, 0] bd27) :: kt27_2
noncomputable def opt27_2 : Array Oper := opsOf (pick [1, 1, 0] bd27)
noncomputable def kt27_3 : List Item := .code (pick [1, 1, 1, 1] bd27) :: []
noncomputable def kt27_4 : List Item := .code (pick [1, 1, 1, 0, 1] bd27) :: kt27_3
noncomputable def pt27_3 : List Item := .code (pick [1, 1, 1, 0, 0] bd27) :: kt27_4
noncomputable def opt27_3 : Array Oper := opsOf (pick [1, 1, 1, 0, 0] bd27)
noncomputable def pt27_4 : List Item := .code (pick [1, 1, 1, 0, 1] bd27) :: kt27_3
noncomputable def kt27_5 : List Item := .code (pick [1, 1, 1, 0, 1, 0, 1] bd27) :: kt27_3
noncomputable def kt27_6 : List Item := .code (pick [1, 1, 1, 0, 1, 0, 0, 1] bd27) :: kt27_5
noncomputable def pt27_5 : List Item := .code (pick [1, 1, 1, 0, 1, 0, 0, 0] bd27) :: kt27_6
noncomputable def opt27_5 : Array Oper := opsOf (pick [1, 1, 1, 0, 1, 0, 0, 0] bd27)
noncomputable def kt27_7 : List Item := .code (pick [1, 1, 1, 1, 1] bd27) :: []
noncomputable def kt27_8 : List Item := .code (pick [1, 1, 1, 1, 0, 1] bd27) :: kt27_7
noncomputable def pt27_6 : List Item := .code (pick [1, 1, 1, 1, 0, 0] bd27) :: kt27_8
noncomputable def opt27_6 : Array Oper := opsOf (pick [1, 1, 1, 1, 0, 0] bd27)
noncomputable def pt27_7 : List Item := .code (pick [1, 1, 1, 1, 0, 1] bd27) :: kt27_7
noncomputable def kt27_9 : List Item := .code (pick [1, 1, 1, 1, 0, 1, 0, 1] bd27) :: kt27_7
noncomputable def pt27_8 : List Item := .code (pick [1, 1, 1, 1, 0, 1, 0, 0] bd27) :: kt27_9
noncomputable def opt27_8 : Array Oper := opsOf (pick [1, 1, 1, 1, 0, 1, 0, 0] bd27)
noncomputable def kt27_10 : List Item := .code (pick [1, 1, 1, 1, 1, 1] bd27) :: []
noncomputable def kt27_11 : List Item := .code (pick [1, 1, 1, 1, 1, 0, 1] bd27) :: kt27_10
noncomputable def pt27_9 : List Item := .code (pick [1, 1, 1, 1, 1, 0, 0] bd27) :: kt27_11
noncomputable def opt27_9 : Array Oper := opsOf (pick [1, 1, 1, 1, 1, 0, 0] bd27)
noncomputable def pt27_10 : List Item := .code (pick [1, 1, 1, 1, 1, 0, 1] bd27) :: kt27_10
noncomputable def kt27_12 : List Item := .code (pick [1, 1, 1, 1, 1, 0, 1, 0, 1] bd27) :: kt27_10
noncomputable def pt27_11 : List Item := .code (pick [1, 1, 1, 1, 1, 0, 1, 0, 0] bd27) :: kt27_12
noncomputable def opt27_11 : Array Oper := opsOf (pick [1, 1, 1, 1, 1, 0, 1, 0, 0] bd27)
noncomputable def kt27_13 : List Item := .code (pick [1, 1, 1, 1, 1, 1, 1] bd27) :: []
noncomputable def kt27_14 : List Item := .code (pick [1, 1, 1, 1, 1, 1, 0, 1] bd27) :: kt27_13
noncomputable def pt27_12 : List Item := .code (pick [1, 1, 1, 1, 1, 1, 0, 0] bd27) :: kt27_14
noncomputable def opt27_12 : Array Oper := opsOf (pick [1, 1, 1, 1, 1, 1, 0, 0] bd27)
noncomputable def pt27_13 : List Item := .code (pick [1, 1, 1, 1, 1, 0, 1, 0, 1] bd27) :: kt27_10
noncomputable def pt27_14 : List Item := .code (pick [1, 1, 1, 1, 1, 1, 0, 1] bd27) :: kt27_13
noncomputable def kt27_15 : List Item := .code (pick [1, 1, 1, 1, 1, 1, 0, 1, 0, 1] bd27) :: kt27_13
noncomputable def pt27_15 : List Item := .code (pick [1, 1, 1, 1, 1, 1, 0, 1, 0, 0] bd27) :: kt27_15
noncomputable def opt27_15 : Array Oper := opsOf (pick [1, 1, 1, 1, 1, 1, 0, 1, 0, 0] bd27)
noncomputable def kt27_16 : List Item := .code (pick [1, 1, 1, 1, 1, 1, 1, 1] bd27) :: []
noncomputable def pt27_16 : List Item := .code (pick [1, 1, 1, 1, 1, 1, 1, 0] bd27) :: kt27_16
noncomputable def opt27_16 : Array Oper := opsOf (pick [1, 1, 1, 1, 1, 1, 1, 0] bd27)
noncomputable def pt27_17 : List Item := .code (pick [1, 1, 1, 1, 1, 1, 0, 1, 0, 1] bd27) :: kt27_13
noncomputable def pt27_18 : List Item := .code (pick [1, 1, 1, 1, 1, 1, 1, 1] bd27) :: []
theorem compare (x y : Int) : Ctr Try.prog 27 #[.int .i64 x, .int .i64 y] [] (fun v' => star (fact (v' = .int .i64 (cmpI x y)) :: [])) false := by
 refine spec_of_at (fn := Try.f27) (c := bd27) (args := [.int .i64 x, .int .i64 y]) (n := 20) (e := [(0, .int .i64 x), (1, .int .i64 y)]) (k := pt27_0) Try.func27 (by kernel_rfl) (by kernel_rfl) (by kernel_rfl) (by kernel_rfl) 300 (by kernel_rfl) ?_
 refine At.region (ops := opt27_0) (m := 1) (k' := kt27_0) (by kernel_rfl) 300 (k'' := pt27_1) (by kernel_rfl) ?_
 refine SOps.pures 1 (i' := 1) (m' := 0) (e' := [(4, .int .i64 0), (0, .int .i64 x), (1, .int .i64 y)]) (by intro u; kernel_rfl) ?_
 refine SOps.nil (.inl rfl) ?_
 refine At.pick [0, 1] (e' := [(0, .int .i64 x), (1, .int .i64 y)]) (by kernel_rfl) ?_
 refine At.region (ops := opt27_1) (m := 3) (k' := kt27_1) (by kernel_rfl) 300 (k'' := pt27_2) (by kernel_rfl) ?_
 refine SOps.pures 1 (i' := 1) (m' := 2) (e' := [(7, .int .i64 x), (0, .int .i64 x), (1, .int .i64 y)]) (by intro u; kernel_rfl) ?_
 refine SOps.o (Op.callS 8 30 #[.int .i64 x] (.bool false) [] (B := []) (D := []) (by intro u; kernel_rfl) (isNaN x) (by first | exact .inr rfl | exact .inl rfl) (by kernel_rfl) ?_)
 refine SOps.pures 1 (i' := 3) (m' := 0) (e' := [(5, .bool false), (8, .bool false), (7, .int .i64 x), (0, .int .i64 x), (1, .int .i64 y)]) (by intro u; kernel_rfl) ?_
 refine SOps.nil (.inl rfl) ?_
 refine At.pick [0, 1, 5] (e' := [(0, .int .i64 x), (1, .int .i64 y), (5, .bool false)]) (by kernel_rfl) ?_
 refine At.region (ops := opt27_2) (m := 3) (k' := kt27_2) (by kernel_rfl) 300 (k'' := pt27_3) (by kernel_rfl) ?_
 refine SOps.pures 1 (i' := 1) (m' := 2) (e' := [(9, .int .i64 y), (0, .int .i64 x), (1, .int .i64 y), (5, .bool false)]) (by intro u; kernel_rfl) ?_
 refine SOps.o (Op.callS 10 30 #[.int .i64 y] (.bool false) [] (B := []) (D := []) (by intro u; kernel_rfl) (isNaN y) (by first | exact .inr rfl | exact .inl rfl) (by kernel_rfl) ?_)
 refine SOps.pures 1 (i' := 3) (m' := 0) (e' := [(6, .bool false), (10, .bool false), (9, .int .i64 y), (0, .int .i64 x), (1, .int .i64 y), (5, .bool false)]) (by intro u; kernel_rfl) ?_
 refine SOps.nil (.inl rfl) ?_
 refine At.pick [0, 1, 5, 6] (e' := [(0, .int .i64 x), (1, .int .i64 y), (5, .bool false), (6, .bool false)]) (by kernel_rfl) ?_
 refine At.region (ops := opt27_3) (m := 1) (k' := kt27_4) (by kernel_rfl) 300 (k'' := pt27_4) (by kernel_rfl) ?_
 refine SOps.pures 1 (i' := 1) (m' := 0) (e' := [(11, .bool false), (0, .int .i64 x), (1, .int .i64 y), (5, .bool false), (6, .bool false)]) (by intro u; kernel_rfl) ?_
 refine SOps.nil (.inl rfl) ?_
 refine At.pick [0, 1, 6, 11] (e' := [(0, .int .i64 x), (1, .int .i64 y), (6, .bool false), (11, .bool false)]) (by kernel_rfl) ?_
 refine At.cond 300 false (c := .tmp 11) (k1 := pt27_5) (k2 := pt27_6) (by kernel_rfl) (by intro u; kernel_rfl) (fun h => by cases h) (fun _ => ?_)
 refine At.pick [0, 1, 6] (e' := [(0, .int .i64 x), (1, .int .i64 y), (6, .bool false)]) (by kernel_rfl) ?_
 refine At.region (ops := opt27_6) (m := 1) (k' := kt27_8) (by kernel_rfl) 300 (k'' := pt27_7) (by kernel_rfl) ?_
 refine SOps.pures 1 (i' := 1) (m' := 0) (e' := [(13, .bool false), (0, .int .i64 x), (1, .int .i64 y), (6, .bool false)]) (by intro u; kernel_rfl) ?_
 refine SOps.nil (.inl rfl) ?_
 refine At.pick [0, 1, 13] (e' := [(0, .int .i64 x), (1, .int .i64 y), (13, .bool false)]) (by kernel_rfl) ?_
 refine At.cond 300 false (c := .tmp 13) (k1 := pt27_8) (k2 := pt27_9) (by kernel_rfl) (by intro u; kernel_rfl) (fun h => by cases h) (fun _ => ?_)
 refine At.pick [0, 1] (e' := [(0, .int .i64 x), (1, .int .i64 y)]) (by kernel_rfl) ?_
 refine At.region (ops := opt27_9) (m := 3) (k' := kt27_11) (by kernel_rfl) 300 (k'' := pt27_10) (by kernel_rfl) ?_
 refine SOps.pures 3 (i' := 3) (m' := 0) (e' := [(16, .bool (decide (x < y))), (15, .int .i64 y), (14, .int .i64 x), (0, .int .i64 x), (1, .int .i64 y)]) (by intro u; kernel_rfl) ?_
 refine SOps.nil (.inl rfl) ?_
 refine At.pick [0, 1, 16] (e' := [(0, .int .i64 x), (1, .int .i64 y), (16, .bool (decide (x < y)))]) (by kernel_rfl) ?_
 refine At.split (fun zq => [(0, .int .i64 x), (1, .int .i64 y), (16, .bool zq)]) (decide (x < y)) (fun hx1 => ?_) (fun hx1 => ?_)
 ·have hx1 : x < y := by simpa using hx1
  refine At.cond 300 true (c := .tmp 16) (k1 := pt27_11) (k2 := pt27_12) (by kernel_rfl) (by intro u; kernel_rfl) (fun _ => ?_) (fun h => by cases h)
  refine At.pick [] (e' := []) (by kernel_rfl) ?_
  refine At.region (ops := opt27_11) (m := 1) (k' := kt27_12) (by kernel_rfl) 300 (k'' := pt27_13) (by kernel_rfl) ?_
  refine SOps.pures 1 (i' := 1) (m' := 0) (e' := [(4, .int .i64 (-1))]) (by intro u; kernel_rfl) ?_
  refine SOps.nil (.inl rfl) ?_
  refine At.ret1 (fn := Try.f27) (v := .int .i64 (-1)) (t := 4) (by kernel_rfl) Try.func27 (by kernel_rfl) (by kernel_rfl) (fun F w ho => ?_)
  exact shutV (by rw [cmpI_lt (by omega)]) [] rfl ho
 ·have hx1 : x ≥ y := by simpa using hx1
  refine At.cond 300 false (c := .tmp 16) (k1 := pt27_11) (k2 := pt27_12) (by kernel_rfl) (by intro u; kernel_rfl) (fun h => by cases h) (fun _ => ?_)
  refine At.pick [0, 1] (e' := [(0, .int .i64 x), (1, .int .i64 y)]) (by kernel_rfl) ?_
  refine At.region (ops := opt27_12) (m := 3) (k' := kt27_14) (by kernel_rfl) 300 (k'' := pt27_14) (by kernel_rfl) ?_
  refine SOps.pures 3 (i' := 3) (m' := 0) (e' := [(19, .bool (decide (x > y))), (18, .int .i64 y), (17, .int .i64 x), (0, .int .i64 x), (1, .int .i64 y)]) (by intro u; kernel_rfl) ?_
  refine SOps.nil (.inl rfl) ?_
  refine At.pick [19] (e' := [(19, .bool (decide (x > y)))]) (by kernel_rfl) ?_
  refine At.split (fun zq => [(19, .bool zq)]) (decide (x > y)) (fun hx2 => ?_) (fun hx2 => ?_)
  ·have hx2 : x > y := by simpa using hx2
   refine At.cond 300 true (c := .tmp 19) (k1 := pt27_15) (k2 := pt27_16) (by kernel_rfl) (by intro u; kernel_rfl) (fun _ => ?_) (fun h => by cases h)
   refine At.pick [] (e' := []) (by kernel_rfl) ?_
   refine At.region (ops := opt27_15) (m := 1) (k' := kt27_15) (by kernel_rfl) 300 (k'' := pt27_17) (by kernel_rfl) ?_
   refine SOps.pures 1 (i' := 1) (m' := 0) (e' := [(4, .int .i64 1)]) (by intro u; kernel_rfl) ?_
   refine SOps.nil (.inl rfl) ?_
   refine At.ret1 (fn := Try.f27) (v := .int .i64 1) (t := 4) (by kernel_rfl) Try.func27 (by kernel_rfl) (by kernel_rfl) (fun F w ho => ?_)
   exact shutV (by rw [cmpI_gt (by omega)]) [] rfl ho
  ·have hx2 : x ≤ y := by simpa using hx2
   refine At.cond 300 false (c := .tmp 19) (k1 := pt27_15) (k2 := pt27_16) (by kernel_rfl) (by intro u; kernel_rfl) (fun h => by cases h) (fun _ => ?_)
   refine At.pick [] (e' := []) (by kernel_rfl) ?_
   refine At.region (ops := opt27_16) (m := 1) (k' := kt27_16) (by kernel_rfl) 300 (k'' := pt27_18) (by kernel_rfl) ?_
   refine SOps.pures 1 (i' := 1) (m' := 0) (e' := [(4, .int .i64 0)]) (by intro u; kernel_rfl) ?_
   refine SOps.nil (.inl rfl) ?_
   refine At.ret1 (fn := Try.f27) (v := .int .i64 0) (t := 4) (by kernel_rfl) Try.func27 (by kernel_rfl) (by kernel_rfl) (fun F w ho => ?_)
   exact shutV (by rw [cmpI_eq (by omega) (by omega)]) [] rfl ho
noncomputable def bd26 : Code := (Try.f26.body).getD .skip
noncomputable def kt26_0 : List Item := .code (pick [1] bd26) :: []
noncomputable def pt26_0 : List Item := .code (pick [0] bd26) :: kt26_0
noncomputable def opt26_0 : Array Oper := opsOf (pick [0] bd26)
noncomputable def kt26_1 : List Item := .code (pick [1, 1] bd26) :: []
noncomputable def pt26_1 : List Item := .code (pick [1, 0] bd26) :: kt26_1
noncomputable def opt26_1 : Array Oper := opsOf (pick [1, 0] bd26)
noncomputable def pt26_2 : List Item := .code (pick [1, 1] bd26) :: []
theorem placeF (a : Alarm) (t : Int) : Ctr Try.prog 26 #[.agg #[.int .i64 a.id, .int .i64 a.minute, .int .i64 a.days, .bool a.off], .int .i64 t] [] (fun v' => star (fact (v' = .int .i64 (cmpI a.id t)) :: [])) false := by
 refine spec_of_at (fn := Try.f26) (c := bd26) (args := [.agg #[.int .i64 a.id, .int .i64 a.minute, .int .i64 a.days, .bool a.off], .int .i64 t]) (n := 9) (e := [(0, .agg #[.int .i64 a.id, .int .i64 a.minute, .int .i64 a.days, .bool a.off]), (1, .int .i64 t)]) (k := pt26_0) Try.func26 (by kernel_rfl) (by kernel_rfl) (by kernel_rfl) (by kernel_rfl) 300 (by kernel_rfl) ?_
 refine At.region (ops := opt26_0) (m := 2) (k' := kt26_0) (by kernel_rfl) 300 (k'' := pt26_1) (by kernel_rfl) ?_
 refine SOps.o (Op.new 2 30 [.int .i64 a.id, .int .i64 a.minute, .int .i64 a.days, .bool a.off] (fun b => .pointer (some ⟨b, 0, none⟩)) (by intro u b; kernel_rfl) ?_)
 intro bx1
 refine SOps.pures 1 (i' := 2) (m' := 0) (e' := [(4, .int .i64 0), (2, .pointer (some ⟨bx1, 0, none⟩)), (0, .agg #[.int .i64 a.id, .int .i64 a.minute, .int .i64 a.days, .bool a.off]), (1, .int .i64 t)]) (by intro u; kernel_rfl) ?_
 refine SOps.nil (.inl rfl) ?_
 refine At.pick [1, 2] (e' := [(1, .int .i64 t), (2, .pointer (some ⟨bx1, 0, none⟩))]) (by kernel_rfl) ?_
 refine At.region (ops := opt26_1) (m := 5) (k' := kt26_1) (by kernel_rfl) 300 (k'' := pt26_2) (by kernel_rfl) ?_
 refine SOps.pures 1 (i' := 1) (m' := 4) (e' := [(5, .pointer (some ⟨bx1, 0, none⟩)), (1, .int .i64 t), (2, .pointer (some ⟨bx1, 0, none⟩))]) (by intro u; kernel_rfl) ?_
 refine SOps.v (Val.ld1 0 6 3 bx1 0 (.int .i64 a.id) rfl (by intro u; kernel_rfl) (by kernel_rfl) (Rd.cells rfl)) ?_
 refine SOps.pures 1 (i' := 3) (m' := 2) (e' := [(7, .int .i64 t), (6, .int .i64 a.id), (5, .pointer (some ⟨bx1, 0, none⟩)), (1, .int .i64 t), (2, .pointer (some ⟨bx1, 0, none⟩))]) (by intro u; kernel_rfl) ?_
 refine SOps.o (Op.callS 8 27 #[.int .i64 a.id, .int .i64 t] (.int .i64 (cmpI a.id t)) [] (B := []) (D := [Cells bx1 30 [.int .i64 a.id, .int .i64 a.minute, .int .i64 a.days, .bool a.off]]) (by intro u; kernel_rfl) (compare a.id t) (by first | exact .inr rfl | exact .inl rfl) (by kernel_rfl) ?_)
 refine SOps.pures 1 (i' := 5) (m' := 0) (e' := [(4, .int .i64 (cmpI a.id t)), (8, .int .i64 (cmpI a.id t)), (7, .int .i64 t), (6, .int .i64 a.id), (5, .pointer (some ⟨bx1, 0, none⟩)), (1, .int .i64 t), (2, .pointer (some ⟨bx1, 0, none⟩))]) (by intro u; kernel_rfl) ?_
 refine SOps.nil (.inl rfl) ?_
 refine At.pick [4] (e' := [(4, .int .i64 (cmpI a.id t))]) (by kernel_rfl) ?_
 refine At.ret1 (fn := Try.f26) (v := .int .i64 (cmpI a.id t)) (t := 4) (by kernel_rfl) Try.func26 (by kernel_rfl) (by kernel_rfl) (fun F w ho => ?_)
 exact shutV (rfl) [] rfl ho
noncomputable def bd20 : Code := (Try.f20.body).getD .skip
noncomputable def kt20_0 : List Item := .code (pick [1] bd20) :: []
noncomputable def pt20_0 : List Item := .code (pick [0] bd20) :: kt20_0
noncomputable def opt20_0 : Array Oper := opsOf (pick [0] bd20)
noncomputable def kt20_1 : List Item := .code (pick [1, 1] bd20) :: []
noncomputable def pt20_1 : List Item := .code (pick [1, 0] bd20) :: kt20_1
noncomputable def opt20_1 : Array Oper := opsOf (pick [1, 0] bd20)
noncomputable def pt20_2 : List Item := .code (pick [1, 1] bd20) :: []
theorem within (m : Int) : Ctr Try.prog 20 #[.int .i64 m] [] (fun v' => star (fact (v' = .int .i64 (m % 10080)) :: [])) false := by
 refine spec_of_at (fn := Try.f20) (c := bd20) (args := [.int .i64 m]) (n := 7) (e := [(0, .int .i64 m)]) (k := pt20_0) Try.func20 (by kernel_rfl) (by kernel_rfl) (by kernel_rfl) (by kernel_rfl) 300 (by kernel_rfl) ?_
 refine At.region (ops := opt20_0) (m := 1) (k' := kt20_0) (by kernel_rfl) 300 (k'' := pt20_1) (by kernel_rfl) ?_
 refine SOps.pures 1 (i' := 1) (m' := 0) (e' := [(2, .int .i64 0), (0, .int .i64 m)]) (by intro u; kernel_rfl) ?_
 refine SOps.nil (.inl rfl) ?_
 refine At.pick [0] (e' := [(0, .int .i64 m)]) (by kernel_rfl) ?_
 refine At.region (ops := opt20_1) (m := 5) (k' := kt20_1) (by kernel_rfl) 300 (k'' := pt20_2) (by kernel_rfl) ?_
 refine SOps.pures 1 (i' := 1) (m' := 4) (e' := [(3, .int .i64 m), (0, .int .i64 m)]) (by intro u; kernel_rfl) ?_
 refine SOps.v (Val.pv 4 (vN (Op.intDiv .rem .i64 m 10080)) (.int .i64 (Int.tmod m 10080)) (by intro u; kernel_rfl) (pv_remT (by omega) rfl)) ?_
 have hm := tmod_lt (a := m) (b := 10080) (by omega)
 refine SOps.v (Val.pe 5 (.int .i64 (IntKind.i64.wrap (Int.tmod m 10080 + 10080))) (.int .i64 (Int.tmod m 10080 + 10080)) (by intro u; kernel_rfl) (i64_in rfl (by omega) (by omega))) ?_
 refine SOps.v (Val.pv 6 (vN (Op.intDiv .rem .i64 (Int.tmod m 10080 + 10080) 10080)) (.int .i64 (m % 10080)) (by intro u; kernel_rfl) (pv_remT (by omega) (by rw [tmod_pos (by omega)]; exact tmod_emod (by omega)))) ?_
 refine SOps.pures 1 (i' := 5) (m' := 0) (e' := [(2, .int .i64 (m % 10080)), (6, .int .i64 (m % 10080)), (5, .int .i64 (Int.tmod m 10080 + 10080)), (4, .int .i64 (Int.tmod m 10080)), (3, .int .i64 m), (0, .int .i64 m)]) (by intro u; kernel_rfl) ?_
 refine SOps.nil (.inl rfl) ?_
 refine At.pick [2] (e' := [(2, .int .i64 (m % 10080))]) (by kernel_rfl) ?_
 refine At.ret1 (fn := Try.f20) (v := .int .i64 (m % 10080)) (t := 2) (by kernel_rfl) Try.func20 (by kernel_rfl) (by kernel_rfl) (fun F w ho => ?_)
 exact shutV (rfl) [] rfl ho
noncomputable def bd22 : Code := (Try.f22.body).getD .skip
noncomputable def kt22_0 : List Item := .code (pick [1] bd22) :: []
noncomputable def pt22_0 : List Item := .code (pick [0] bd22) :: kt22_0
noncomputable def opt22_0 : Array Oper := opsOf (pick [0] bd22)
noncomputable def kt22_1 : List Item := .code (pick [1, 1] bd22) :: []
noncomputable def pt22_1 : List Item := .code (pick [1, 0] bd22) :: kt22_1
noncomputable def opt22_1 : Array Oper := opsOf (pick [1, 0] bd22)
noncomputable def pt22_2 : List Item := .code (pick [1, 1] bd22) :: []
theorem rightF (a : Alarm) : Ctr Try.prog 22 #[.agg #[.int .i64 a.id, .int .i64 a.minute, .int .i64 a.days, .bool a.off]] [] (fun v' => star (fact (v' = .bool (rightA a)) :: [])) false := by
 refine spec_of_at (fn := Try.f22) (c := bd22) (args := [.agg #[.int .i64 a.id, .int .i64 a.minute, .int .i64 a.days, .bool a.off]]) (n := 21) (e := [(0, .agg #[.int .i64 a.id, .int .i64 a.minute, .int .i64 a.days, .bool a.off])]) (k := pt22_0) Try.func22 (by kernel_rfl) (by kernel_rfl) (by kernel_rfl) (by kernel_rfl) 300 (by kernel_rfl) ?_
 refine At.region (ops := opt22_0) (m := 2) (k' := kt22_0) (by kernel_rfl) 300 (k'' := pt22_1) (by kernel_rfl) ?_
 refine SOps.o (Op.new 1 30 [.int .i64 a.id, .int .i64 a.minute, .int .i64 a.days, .bool a.off] (fun b => .pointer (some ⟨b, 0, none⟩)) (by intro u b; kernel_rfl) ?_)
 intro bx1
 refine SOps.pures 1 (i' := 2) (m' := 0) (e' := [(2, .bool false), (1, .pointer (some ⟨bx1, 0, none⟩)), (0, .agg #[.int .i64 a.id, .int .i64 a.minute, .int .i64 a.days, .bool a.off])]) (by intro u; kernel_rfl) ?_
 refine SOps.nil (.inl rfl) ?_
 refine At.pick [1] (e' := [(1, .pointer (some ⟨bx1, 0, none⟩))]) (by kernel_rfl) ?_
 refine At.region (ops := opt22_1) (m := 19) (k' := kt22_1) (by kernel_rfl) 300 (k'' := pt22_2) (by kernel_rfl) ?_
 refine SOps.pures 1 (i' := 1) (m' := 18) (e' := [(3, .pointer (some ⟨bx1, 1, none⟩)), (1, .pointer (some ⟨bx1, 0, none⟩))]) (by intro u; kernel_rfl) ?_
 refine SOps.v (Val.ld1 0 4 3 bx1 1 (.int .i64 a.minute) rfl (by intro u; kernel_rfl) (by kernel_rfl) (Rd.cells rfl)) ?_
 refine SOps.pures 2 (i' := 4) (m' := 15) (e' := [(6, .bool (decide (a.minute ≥ 0))), (5, .bool (decide (a.minute ≥ 0))), (4, .int .i64 a.minute), (3, .pointer (some ⟨bx1, 1, none⟩)), (1, .pointer (some ⟨bx1, 0, none⟩))]) (by intro u; kernel_rfl) ?_
 refine SOps.split (fun zq => [(6, .bool zq), (5, .bool zq), (4, .int .i64 a.minute), (3, .pointer (some ⟨bx1, 1, none⟩)), (1, .pointer (some ⟨bx1, 0, none⟩))]) (decide (a.minute ≥ 0)) (fun hx2 => ?_) (fun hx2 => ?_)
 ·have hx2 : a.minute ≥ 0 := by simpa using hx2
  refine SOps.pures 1 (i' := 5) (m' := 14) (e' := [(7, .pointer (some ⟨bx1, 1, none⟩)), (6, .bool true), (5, .bool true), (4, .int .i64 a.minute), (3, .pointer (some ⟨bx1, 1, none⟩)), (1, .pointer (some ⟨bx1, 0, none⟩))]) (by intro u; kernel_rfl) ?_
  refine SOps.v (Val.ld1 0 8 3 bx1 1 (.int .i64 a.minute) rfl (by intro u; kernel_rfl) (by kernel_rfl) (Rd.cells rfl)) ?_
  refine SOps.pures 3 (i' := 9) (m' := 10) (e' := [(11, .bool (decide (a.minute < 1440))), (10, .bool (decide (a.minute < 1440))), (9, .bool (decide (a.minute < 1440))), (8, .int .i64 a.minute), (7, .pointer (some ⟨bx1, 1, none⟩)), (6, .bool true), (5, .bool true), (4, .int .i64 a.minute), (3, .pointer (some ⟨bx1, 1, none⟩)), (1, .pointer (some ⟨bx1, 0, none⟩))]) (by intro u; kernel_rfl) ?_
  refine SOps.split (fun zq => [(11, .bool zq), (10, .bool zq), (9, .bool zq), (8, .int .i64 a.minute), (7, .pointer (some ⟨bx1, 1, none⟩)), (6, .bool true), (5, .bool true), (4, .int .i64 a.minute), (3, .pointer (some ⟨bx1, 1, none⟩)), (1, .pointer (some ⟨bx1, 0, none⟩))]) (decide (a.minute < 1440)) (fun hx3 => ?_) (fun hx3 => ?_)
  ·have hx3 : a.minute < 1440 := by simpa using hx3
   refine SOps.pures 1 (i' := 10) (m' := 9) (e' := [(12, .pointer (some ⟨bx1, 2, none⟩)), (11, .bool true), (10, .bool true), (9, .bool true), (8, .int .i64 a.minute), (7, .pointer (some ⟨bx1, 1, none⟩)), (6, .bool true), (5, .bool true), (4, .int .i64 a.minute), (3, .pointer (some ⟨bx1, 1, none⟩)), (1, .pointer (some ⟨bx1, 0, none⟩))]) (by intro u; kernel_rfl) ?_
   refine SOps.v (Val.ld1 0 13 3 bx1 2 (.int .i64 a.days) rfl (by intro u; kernel_rfl) (by kernel_rfl) (Rd.cells rfl)) ?_
   refine SOps.pures 3 (i' := 14) (m' := 5) (e' := [(16, .bool (decide (a.days > 0))), (15, .bool (decide (a.days > 0))), (14, .bool (decide (a.days > 0))), (13, .int .i64 a.days), (12, .pointer (some ⟨bx1, 2, none⟩)), (11, .bool true), (10, .bool true), (9, .bool true), (8, .int .i64 a.minute), (7, .pointer (some ⟨bx1, 1, none⟩)), (6, .bool true), (5, .bool true), (4, .int .i64 a.minute), (3, .pointer (some ⟨bx1, 1, none⟩)), (1, .pointer (some ⟨bx1, 0, none⟩))]) (by intro u; kernel_rfl) ?_
   refine SOps.split (fun zq => [(16, .bool zq), (15, .bool zq), (14, .bool zq), (13, .int .i64 a.days), (12, .pointer (some ⟨bx1, 2, none⟩)), (11, .bool true), (10, .bool true), (9, .bool true), (8, .int .i64 a.minute), (7, .pointer (some ⟨bx1, 1, none⟩)), (6, .bool true), (5, .bool true), (4, .int .i64 a.minute), (3, .pointer (some ⟨bx1, 1, none⟩)), (1, .pointer (some ⟨bx1, 0, none⟩))]) (decide (a.days > 0)) (fun hx4 => ?_) (fun hx4 => ?_)
   ·have hx4 : a.days > 0 := by simpa using hx4
    refine SOps.pures 1 (i' := 15) (m' := 4) (e' := [(17, .pointer (some ⟨bx1, 2, none⟩)), (16, .bool true), (15, .bool true), (14, .bool true), (13, .int .i64 a.days), (12, .pointer (some ⟨bx1, 2, none⟩)), (11, .bool true), (10, .bool true), (9, .bool true), (8, .int .i64 a.minute), (7, .pointer (some ⟨bx1, 1, none⟩)), (6, .bool true), (5, .bool true), (4, .int .i64 a.minute), (3, .pointer (some ⟨bx1, 1, none⟩)), (1, .pointer (some ⟨bx1, 0, none⟩))]) (by intro u; kernel_rfl) ?_
    refine SOps.v (Val.ld1 0 18 3 bx1 2 (.int .i64 a.days) rfl (by intro u; kernel_rfl) (by kernel_rfl) (Rd.cells rfl)) ?_
    refine SOps.pures 3 (i' := 19) (m' := 0) (e' := [(2, .bool (decide (a.days < 128))), (20, .bool (decide (a.days < 128))), (19, .bool (decide (a.days < 128))), (18, .int .i64 a.days), (17, .pointer (some ⟨bx1, 2, none⟩)), (16, .bool true), (15, .bool true), (14, .bool true), (13, .int .i64 a.days), (12, .pointer (some ⟨bx1, 2, none⟩)), (11, .bool true), (10, .bool true), (9, .bool true), (8, .int .i64 a.minute), (7, .pointer (some ⟨bx1, 1, none⟩)), (6, .bool true), (5, .bool true), (4, .int .i64 a.minute), (3, .pointer (some ⟨bx1, 1, none⟩)), (1, .pointer (some ⟨bx1, 0, none⟩))]) (by intro u; kernel_rfl) ?_
    refine SOps.nil (.inl rfl) ?_
    refine At.pick [2] (e' := [(2, .bool (decide (a.days < 128)))]) (by kernel_rfl) ?_
    refine At.ret1 (fn := Try.f22) (v := .bool (decide (a.days < 128))) (t := 2) (by kernel_rfl) Try.func22 (by kernel_rfl) (by kernel_rfl) (fun F w ho => ?_)
    exact shutV (by congr 1; unfold rightA; rw [Bool.eq_iff_iff]; simp only [decide_eq_true_eq, Bool.false_eq_true, false_iff]; omega) [] rfl ho
   ·have hx4 : a.days ≤ 0 := by simpa using hx4
    refine SOps.pures 5 (i' := 19) (m' := 0) (e' := [(2, .bool false), (20, .bool false), (19, .tuple #[]), (18, .tuple #[]), (17, .tuple #[]), (16, .bool false), (15, .bool false), (14, .bool false), (13, .int .i64 a.days), (12, .pointer (some ⟨bx1, 2, none⟩)), (11, .bool true), (10, .bool true), (9, .bool true), (8, .int .i64 a.minute), (7, .pointer (some ⟨bx1, 1, none⟩)), (6, .bool true), (5, .bool true), (4, .int .i64 a.minute), (3, .pointer (some ⟨bx1, 1, none⟩)), (1, .pointer (some ⟨bx1, 0, none⟩))]) (by intro u; kernel_rfl) ?_
    refine SOps.nil (.inl rfl) ?_
    refine At.pick [2] (e' := [(2, .bool false)]) (by kernel_rfl) ?_
    refine At.ret1 (fn := Try.f22) (v := .bool false) (t := 2) (by kernel_rfl) Try.func22 (by kernel_rfl) (by kernel_rfl) (fun F w ho => ?_)
    exact shutV (by congr 1; unfold rightA; rw [Bool.eq_iff_iff]; simp only [decide_eq_true_eq, Bool.false_eq_true, false_iff]; omega) [] rfl ho
  ·have hx3 : a.minute ≥ 1440 := by simpa using hx3
   refine SOps.pures 10 (i' := 19) (m' := 0) (e' := [(2, .bool false), (20, .bool false), (19, .tuple #[]), (18, .tuple #[]), (17, .tuple #[]), (16, .bool false), (15, .bool false), (14, .tuple #[]), (13, .tuple #[]), (12, .tuple #[]), (11, .bool false), (10, .bool false), (9, .bool false), (8, .int .i64 a.minute), (7, .pointer (some ⟨bx1, 1, none⟩)), (6, .bool true), (5, .bool true), (4, .int .i64 a.minute), (3, .pointer (some ⟨bx1, 1, none⟩)), (1, .pointer (some ⟨bx1, 0, none⟩))]) (by intro u; kernel_rfl) ?_
   refine SOps.nil (.inl rfl) ?_
   refine At.pick [2] (e' := [(2, .bool false)]) (by kernel_rfl) ?_
   refine At.ret1 (fn := Try.f22) (v := .bool false) (t := 2) (by kernel_rfl) Try.func22 (by kernel_rfl) (by kernel_rfl) (fun F w ho => ?_)
   exact shutV (by congr 1; unfold rightA; rw [Bool.eq_iff_iff]; simp only [decide_eq_true_eq, Bool.false_eq_true, false_iff]; omega) [] rfl ho
 ·have hx2 : a.minute < 0 := by simpa using hx2
  refine SOps.pures 15 (i' := 19) (m' := 0) (e' := [(2, .bool false), (20, .bool false), (19, .tuple #[]), (18, .tuple #[]), (17, .tuple #[]), (16, .bool false), (15, .bool false), (14, .tuple #[]), (13, .tuple #[]), (12, .tuple #[]), (11, .bool false), (10, .bool false), (9, .tuple #[]), (8, .tuple #[]), (7, .tuple #[]), (6, .bool false), (5, .bool false), (4, .int .i64 a.minute), (3, .pointer (some ⟨bx1, 1, none⟩)), (1, .pointer (some ⟨bx1, 0, none⟩))]) (by intro u; kernel_rfl) ?_
  refine SOps.nil (.inl rfl) ?_
  refine At.pick [2] (e' := [(2, .bool false)]) (by kernel_rfl) ?_
  refine At.ret1 (fn := Try.f22) (v := .bool false) (t := 2) (by kernel_rfl) Try.func22 (by kernel_rfl) (by kernel_rfl) (fun F w ho => ?_)
  exact shutV (by congr 1; unfold rightA; rw [Bool.eq_iff_iff]; simp only [decide_eq_true_eq, Bool.false_eq_true, false_iff]; omega) [] rfl ho
noncomputable def bd19 : Code := (Try.f19.body).getD .skip
noncomputable def kt19_0 : List Item := .code (pick [1] bd19) :: []
noncomputable def pt19_0 : List Item := .code (pick [0] bd19) :: kt19_0
noncomputable def opt19_0 : Array Oper := opsOf (pick [0] bd19)
noncomputable def kt19_1 : List Item := .code (pick [1, 1] bd19) :: []
noncomputable def pt19_1 : List Item := .code (pick [1, 0] bd19) :: kt19_1
noncomputable def opt19_1 : Array Oper := opsOf (pick [1, 0] bd19)
noncomputable def pt19_2 : List Item := .code (pick [1, 1] bd19) :: []
theorem ringsF (a : Alarm) (m : Int) (hm : 0 ≤ m ∧ m < 10080) (hd : 0 ≤ a.days ∧ a.days < 128) : Ctr Try.prog 19 #[.agg #[.int .i64 a.id, .int .i64 a.minute, .int .i64 a.days, .bool a.off], .int .i64 m] [] (fun v' => star (fact (v' = .bool (ringsA a m)) :: [])) false := by
 refine spec_of_at (fn := Try.f19) (c := bd19) (args := [.agg #[.int .i64 a.id, .int .i64 a.minute, .int .i64 a.days, .bool a.off], .int .i64 m]) (n := 25) (e := [(0, .agg #[.int .i64 a.id, .int .i64 a.minute, .int .i64 a.days, .bool a.off]), (1, .int .i64 m)]) (k := pt19_0) Try.func19 (by kernel_rfl) (by kernel_rfl) (by kernel_rfl) (by kernel_rfl) 300 (by kernel_rfl) ?_
 refine At.region (ops := opt19_0) (m := 2) (k' := kt19_0) (by kernel_rfl) 300 (k'' := pt19_1) (by kernel_rfl) ?_
 refine SOps.o (Op.new 2 30 [.int .i64 a.id, .int .i64 a.minute, .int .i64 a.days, .bool a.off] (fun b => .pointer (some ⟨b, 0, none⟩)) (by intro u b; kernel_rfl) ?_)
 intro bx1
 refine SOps.pures 1 (i' := 2) (m' := 0) (e' := [(4, .bool false), (2, .pointer (some ⟨bx1, 0, none⟩)), (0, .agg #[.int .i64 a.id, .int .i64 a.minute, .int .i64 a.days, .bool a.off]), (1, .int .i64 m)]) (by intro u; kernel_rfl) ?_
 refine SOps.nil (.inl rfl) ?_
 refine At.pick [1, 2] (e' := [(1, .int .i64 m), (2, .pointer (some ⟨bx1, 0, none⟩))]) (by kernel_rfl) ?_
 refine At.region (ops := opt19_1) (m := 21) (k' := kt19_1) (by kernel_rfl) 300 (k'' := pt19_2) (by kernel_rfl) ?_
 refine SOps.pures 1 (i' := 1) (m' := 20) (e' := [(5, .pointer (some ⟨bx1, 3, none⟩)), (1, .int .i64 m), (2, .pointer (some ⟨bx1, 0, none⟩))]) (by intro u; kernel_rfl) ?_
 refine SOps.v (Val.ld1 0 6 4 bx1 3 (.bool a.off) rfl (by intro u; kernel_rfl) (by kernel_rfl) (Rd.cells rfl)) ?_
 refine SOps.pures 2 (i' := 4) (m' := 17) (e' := [(8, .bool (!a.off)), (7, .bool (!a.off)), (6, .bool a.off), (5, .pointer (some ⟨bx1, 3, none⟩)), (1, .int .i64 m), (2, .pointer (some ⟨bx1, 0, none⟩))]) (by intro u; kernel_rfl) ?_
 refine SOps.split (fun zq => [(8, .bool zq), (7, .bool zq), (6, .bool a.off), (5, .pointer (some ⟨bx1, 3, none⟩)), (1, .int .i64 m), (2, .pointer (some ⟨bx1, 0, none⟩))]) (!a.off) (fun hx2 => ?_) (fun hx2 => ?_)
 ·refine SOps.pures 1 (i' := 5) (m' := 16) (e' := [(9, .int .i64 m), (8, .bool true), (7, .bool true), (6, .bool a.off), (5, .pointer (some ⟨bx1, 3, none⟩)), (1, .int .i64 m), (2, .pointer (some ⟨bx1, 0, none⟩))]) (by intro u; kernel_rfl) ?_
  refine SOps.v (Val.pv 10 (vN (Op.intDiv .rem .i64 m 1440)) (.int .i64 (m % 1440)) (by intro u; kernel_rfl) (pv_rem (by omega) (by omega))) ?_
  refine SOps.pures 1 (i' := 7) (m' := 14) (e' := [(11, .pointer (some ⟨bx1, 1, none⟩)), (10, .int .i64 (m % 1440)), (9, .int .i64 m), (8, .bool true), (7, .bool true), (6, .bool a.off), (5, .pointer (some ⟨bx1, 3, none⟩)), (1, .int .i64 m), (2, .pointer (some ⟨bx1, 0, none⟩))]) (by intro u; kernel_rfl) ?_
  refine SOps.v (Val.ld1 0 12 3 bx1 1 (.int .i64 a.minute) rfl (by intro u; kernel_rfl) (by kernel_rfl) (Rd.cells rfl)) ?_
  refine SOps.pures 3 (i' := 11) (m' := 10) (e' := [(15, .bool ((m % 1440) == a.minute)), (14, .bool ((m % 1440) == a.minute)), (13, .bool ((m % 1440) == a.minute)), (12, .int .i64 a.minute), (11, .pointer (some ⟨bx1, 1, none⟩)), (10, .int .i64 (m % 1440)), (9, .int .i64 m), (8, .bool true), (7, .bool true), (6, .bool a.off), (5, .pointer (some ⟨bx1, 3, none⟩)), (1, .int .i64 m), (2, .pointer (some ⟨bx1, 0, none⟩))]) (by intro u; kernel_rfl) ?_
  refine SOps.split (fun zq => [(15, .bool zq), (14, .bool zq), (13, .bool zq), (12, .int .i64 a.minute), (11, .pointer (some ⟨bx1, 1, none⟩)), (10, .int .i64 (m % 1440)), (9, .int .i64 m), (8, .bool true), (7, .bool true), (6, .bool a.off), (5, .pointer (some ⟨bx1, 3, none⟩)), (1, .int .i64 m), (2, .pointer (some ⟨bx1, 0, none⟩))]) (((m % 1440) == a.minute)) (fun hx3 => ?_) (fun hx3 => ?_)
  ·have hx3 : (m % 1440) = a.minute := by simpa using hx3
   refine SOps.pures 1 (i' := 12) (m' := 9) (e' := [(16, .pointer (some ⟨bx1, 2, none⟩)), (15, .bool true), (14, .bool true), (13, .bool true), (12, .int .i64 a.minute), (11, .pointer (some ⟨bx1, 1, none⟩)), (10, .int .i64 (m % 1440)), (9, .int .i64 m), (8, .bool true), (7, .bool true), (6, .bool a.off), (5, .pointer (some ⟨bx1, 3, none⟩)), (1, .int .i64 m), (2, .pointer (some ⟨bx1, 0, none⟩))]) (by intro u; kernel_rfl) ?_
   refine SOps.v (Val.ld1 0 17 3 bx1 2 (.int .i64 a.days) rfl (by intro u; kernel_rfl) (by kernel_rfl) (Rd.cells rfl)) ?_
   refine SOps.pures 1 (i' := 14) (m' := 7) (e' := [(18, .int .i64 m), (17, .int .i64 a.days), (16, .pointer (some ⟨bx1, 2, none⟩)), (15, .bool true), (14, .bool true), (13, .bool true), (12, .int .i64 a.minute), (11, .pointer (some ⟨bx1, 1, none⟩)), (10, .int .i64 (m % 1440)), (9, .int .i64 m), (8, .bool true), (7, .bool true), (6, .bool a.off), (5, .pointer (some ⟨bx1, 3, none⟩)), (1, .int .i64 m), (2, .pointer (some ⟨bx1, 0, none⟩))]) (by intro u; kernel_rfl) ?_
   refine SOps.v (Val.pv 19 (vN (Op.intDiv .quo .i64 m 1440)) (.int .i64 (m / 1440)) (by intro u; kernel_rfl) (pv_quo (by omega) (by omega) (by omega))) ?_
   refine SOps.v (Val.pe 20 (.int .u64 (IntKind.u64.wrap (m / 1440))) (.int .u64 (m / 1440)) (by intro u; kernel_rfl) (u64_in rfl (by omega) (by omega))) ?_
   refine SOps.v (Val.pv 21 (vN (Op.shift .shr .i64 a.days .u64 (m / 1440))) (.int .i64 (a.days / 2 ^ ((m / 1440)).toNat)) (by intro u; kernel_rfl) (shr_var (by omega) (by omega) .i64 .u64 (by decide))) ?_
   have hp := div_pow (k := (m / 1440).toNat) hd.1 hd.2
   refine SOps.v (Val.pv 22 (vN (Op.intBits .and .i64 (a.days / 2 ^ ((m / 1440)).toNat) 1)) (.int .i64 ((a.days / 2 ^ ((m / 1440)).toNat) % 2)) (by intro u; kernel_rfl) (pv_and1 (by omega) (by omega))) ?_
   refine SOps.pures 3 (i' := 21) (m' := 0) (e' := [(4, .bool (((a.days / 2 ^ ((m / 1440)).toNat) % 2) == 1)), (24, .bool (((a.days / 2 ^ ((m / 1440)).toNat) % 2) == 1)), (23, .bool (((a.days / 2 ^ ((m / 1440)).toNat) % 2) == 1)), (22, .int .i64 ((a.days / 2 ^ ((m / 1440)).toNat) % 2)), (21, .int .i64 (a.days / 2 ^ ((m / 1440)).toNat)), (20, .int .u64 (m / 1440)), (19, .int .i64 (m / 1440)), (18, .int .i64 m), (17, .int .i64 a.days), (16, .pointer (some ⟨bx1, 2, none⟩)), (15, .bool true), (14, .bool true), (13, .bool true), (12, .int .i64 a.minute), (11, .pointer (some ⟨bx1, 1, none⟩)), (10, .int .i64 (m % 1440)), (9, .int .i64 m), (8, .bool true), (7, .bool true), (6, .bool a.off), (5, .pointer (some ⟨bx1, 3, none⟩)), (1, .int .i64 m), (2, .pointer (some ⟨bx1, 0, none⟩))]) (by intro u; kernel_rfl) ?_
   refine SOps.nil (.inl rfl) ?_
   refine At.pick [4] (e' := [(4, .bool (((a.days / 2 ^ ((m / 1440)).toNat) % 2) == 1))]) (by kernel_rfl) ?_
   refine At.ret1 (fn := Try.f19) (v := .bool (((a.days / 2 ^ ((m / 1440)).toNat) % 2) == 1)) (t := 4) (by kernel_rfl) Try.func19 (by kernel_rfl) (by kernel_rfl) (fun F w ho => ?_)
   exact shutV (by first | (simp [ringsA, *]; done) | (simp [ringsA, *]; rfl)) [] rfl ho
  ·have hx3 : (m % 1440) ≠ a.minute := by simpa using hx3
   refine SOps.pures 10 (i' := 21) (m' := 0) (e' := [(4, .bool false), (24, .bool false), (23, .tuple #[]), (22, .tuple #[]), (21, .tuple #[]), (20, .tuple #[]), (19, .tuple #[]), (18, .tuple #[]), (17, .tuple #[]), (16, .tuple #[]), (15, .bool false), (14, .bool false), (13, .bool false), (12, .int .i64 a.minute), (11, .pointer (some ⟨bx1, 1, none⟩)), (10, .int .i64 (m % 1440)), (9, .int .i64 m), (8, .bool true), (7, .bool true), (6, .bool a.off), (5, .pointer (some ⟨bx1, 3, none⟩)), (1, .int .i64 m), (2, .pointer (some ⟨bx1, 0, none⟩))]) (by intro u; kernel_rfl) ?_
   refine SOps.nil (.inl rfl) ?_
   refine At.pick [4] (e' := [(4, .bool false)]) (by kernel_rfl) ?_
   refine At.ret1 (fn := Try.f19) (v := .bool false) (t := 4) (by kernel_rfl) Try.func19 (by kernel_rfl) (by kernel_rfl) (fun F w ho => ?_)
   exact shutV (by first | (simp [ringsA, *]; done) | (simp [ringsA, *]; rfl)) [] rfl ho
 ·refine SOps.pures 17 (i' := 21) (m' := 0) (e' := [(4, .bool false), (24, .bool false), (23, .tuple #[]), (22, .tuple #[]), (21, .tuple #[]), (20, .tuple #[]), (19, .tuple #[]), (18, .tuple #[]), (17, .tuple #[]), (16, .tuple #[]), (15, .bool false), (14, .bool false), (13, .tuple #[]), (12, .tuple #[]), (11, .tuple #[]), (10, .tuple #[]), (9, .tuple #[]), (8, .bool false), (7, .bool false), (6, .bool a.off), (5, .pointer (some ⟨bx1, 3, none⟩)), (1, .int .i64 m), (2, .pointer (some ⟨bx1, 0, none⟩))]) (by intro u; kernel_rfl) ?_
  refine SOps.nil (.inl rfl) ?_
  refine At.pick [4] (e' := [(4, .bool false)]) (by kernel_rfl) ?_
  refine At.ret1 (fn := Try.f19) (v := .bool false) (t := 4) (by kernel_rfl) Try.func19 (by kernel_rfl) (by kernel_rfl) (fun F w ho => ?_)
  exact shutV (by first | (simp [ringsA, *]; done) | (simp [ringsA, *]; rfl)) [] rfl ho
end Go.Proofs.Wk
