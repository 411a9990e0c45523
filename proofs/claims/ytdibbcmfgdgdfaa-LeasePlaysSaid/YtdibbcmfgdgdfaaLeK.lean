/- Leases: renewed, given back. -/
import Derived.Test.YtdibbcmfgdgdfaaLeB
namespace Go.Proofs.Le
open Go Go.Sp Go.Le
set_option linter.unusedVariables false
set_option linter.unusedSimpArgs false
set_option linter.unnecessarySimpa false
set_option maxRecDepth 100000
noncomputable def bd10 : Code := (Try.f10.body).getD .skip
noncomputable def kt10_0 : List Item := .code (pick [1] bd10) :: []
noncomputable def pt10_0 : List Item := .code (pick [0] bd10) :: kt10_0
noncomputable def opt10_0 : Array Oper := opsOf (pick [0] bd10)
noncomputable def kt10_1 : List Item := .code (pick [1, 1] bd10) :: []
noncomputable def kt10_2 : List Item := .code (pick [1, 0, 1] bd10) :: kt10_1
noncomputable def pt10_1 : List Item := .code (pick [1, 0, 0] bd10) :: kt10_2
noncomputable def opt10_1 : Array Oper := opsOf (pick [1, 0, 0] bd10)
noncomputable def pt10_2 : List Item := .code (pick [1, 0, 1] bd10) :: kt10_1
noncomputable def kt10_3 : List Item := .code (pick [1, 0, 1, 0, 1] bd10) :: kt10_1
noncomputable def pt10_3 : List Item := .code (pick [1, 0, 1, 0, 0] bd10) :: kt10_3
noncomputable def opt10_3 : Array Oper := opsOf (pick [1, 0, 1, 0, 0] bd10)
noncomputable def kt10_4 : List Item := .code (pick [1, 1, 1] bd10) :: []
noncomputable def pt10_4 : List Item := .code (pick [1, 1, 0] bd10) :: kt10_4
noncomputable def opt10_4 : Array Oper := opsOf (pick [1, 1, 0] bd10)
noncomputable def pt10_5 : List Item := .code (pick [1, 0, 1, 0, 1] bd10) :: kt10_1
noncomputable def kt10_5 : List Item := .code (pick [1, 1, 1, 1] bd10) :: []
noncomputable def kt10_6 : List Item := .inBlock 0 :: kt10_5
noncomputable def kt10_7 : List Item := .code (pick [1, 1, 1, 0, 0, 1] bd10) :: kt10_6
noncomputable def pt10_6 : List Item := .code (pick [1, 1, 1, 0, 0, 0] bd10) :: kt10_7
noncomputable def opt10_6 : Array Oper := opsOf (pick [1, 1, 1, 0, 0, 0] bd10)
noncomputable def pt10_7 : List Item := .code (pick [1, 1, 1, 0, 0, 1] bd10) :: kt10_6
noncomputable def kt10_8 : List Item := .code (pick [1, 1, 1, 0, 0, 1, 0, 1] bd10) :: kt10_6
noncomputable def pt10_8 : List Item := .code (pick [1, 1, 1, 0, 0, 1, 0, 0] bd10) :: kt10_8
noncomputable def opt10_8 : Array Oper := opsOf (pick [1, 1, 1, 0, 0, 1, 0, 0] bd10)
noncomputable def kt10_9 : List Item := .code (pick [1, 1, 1, 0, 0, 1, 1, 1] bd10) :: kt10_6
noncomputable def pt10_9 : List Item := .code (pick [1, 1, 1, 0, 0, 1, 1, 0] bd10) :: kt10_9
noncomputable def opt10_9 : Array Oper := opsOf (pick [1, 1, 1, 0, 0, 1, 1, 0] bd10)
noncomputable def pt10_10 : List Item := .code (pick [1, 1, 1, 0, 0, 1, 0, 1] bd10) :: kt10_6
noncomputable def pt10_11 : List Item := .code (pick [1, 1, 1, 0, 0, 1, 1, 1] bd10) :: kt10_6
noncomputable def kt10_10 : List Item := .code (pick [1, 1, 1, 0, 0, 1, 1, 1, 0, 1] bd10) :: kt10_6
noncomputable def pt10_12 : List Item := .code (pick [1, 1, 1, 0, 0, 1, 1, 1, 0, 0] bd10) :: kt10_10
noncomputable def opt10_12 : Array Oper := opsOf (pick [1, 1, 1, 0, 0, 1, 1, 1, 0, 0] bd10)
noncomputable def kt10_11 : List Item := .code (pick [1, 1, 1, 1, 1] bd10) :: []
noncomputable def pt10_13 : List Item := .code (pick [1, 1, 1, 1, 0] bd10) :: kt10_11
noncomputable def opt10_13 : Array Oper := opsOf (pick [1, 1, 1, 1, 0] bd10)
noncomputable def pt10_14 : List Item := .code (pick [1, 1, 1, 0, 0, 1, 1, 1, 0, 1] bd10) :: kt10_6
noncomputable def kt10_12 : List Item := .code (pick [1, 1, 1, 1, 1, 1] bd10) :: []
noncomputable def pt10_15 : List Item := .code (pick [1, 1, 1, 1, 1, 0] bd10) :: kt10_12
noncomputable def opt10_15 : Array Oper := opsOf (pick [1, 1, 1, 1, 1, 0] bd10)
noncomputable def pt10_16 : List Item := .code (pick [1, 1, 1, 1, 1, 1] bd10) :: []
theorem renewBad1 (d : Nat) (s : De) (t i x long : Int) (hc : long < 1) : Ctr Try.prog 10 #[.pointer (some ⟨d, 0, none⟩), .int .i64 t, .int .i64 i, .int .i64 x, .int .i64 long] [DeskC d s] (fun v' => star (fact (v' = .tuple #[.agg #[.int .i64 0, .int .i64 0, .int .i64 0], .int .i64 2]) :: [DeskC d s])) false := by
 refine spec_of_at (fn := Try.f10) (c := bd10) (args := [.pointer (some ⟨d, 0, none⟩), .int .i64 t, .int .i64 i, .int .i64 x, .int .i64 long]) (n := 65) (e := [(0, .pointer (some ⟨d, 0, none⟩)), (1, .int .i64 t), (2, .int .i64 i), (3, .int .i64 x), (4, .int .i64 long)]) (k := pt10_0) Try.func10 (by kernel_rfl) (by kernel_rfl) (by kernel_rfl) (by kernel_rfl) 300 (by kernel_rfl) ?_
 refine At.region (ops := opt10_0) (m := 2) (k' := kt10_0) (by kernel_rfl) 300 (k'' := pt10_1) (by kernel_rfl) ?_
 refine SOps.o (Op.new 10 27 [.int .i64 0, .int .i64 0, .int .i64 0] (fun b => .pointer (some ⟨b, 0, none⟩)) (by intro u b; kernel_rfl) ?_)
 intro bx1
 refine SOps.pures 1 (i' := 2) (m' := 0) (e' := [(11, .int .i64 0), (10, .pointer (some ⟨bx1, 0, none⟩)), (0, .pointer (some ⟨d, 0, none⟩)), (1, .int .i64 t), (2, .int .i64 i), (3, .int .i64 x), (4, .int .i64 long)]) (by intro u; kernel_rfl) ?_
 refine SOps.nil (.inl rfl) ?_
 refine At.pick [0, 1, 2, 3, 4, 10] (e' := [(0, .pointer (some ⟨d, 0, none⟩)), (1, .int .i64 t), (2, .int .i64 i), (3, .int .i64 x), (4, .int .i64 long), (10, .pointer (some ⟨bx1, 0, none⟩))]) (by kernel_rfl) ?_
 refine At.region (ops := opt10_1) (m := 10) (k' := kt10_2) (by kernel_rfl) 300 (k'' := pt10_2) (by kernel_rfl) ?_
 refine SOps.pures 6 (i' := 6) (m' := 4) (e' := [(18, .bool (decide (long < 1))), (17, .bool (decide (long < 1))), (16, .int .i64 long), (15, .bool true), (14, .bool true), (13, .pointer (some ⟨d, 0, none⟩)), (0, .pointer (some ⟨d, 0, none⟩)), (1, .int .i64 t), (2, .int .i64 i), (3, .int .i64 x), (4, .int .i64 long), (10, .pointer (some ⟨bx1, 0, none⟩))]) (by intro u; kernel_rfl) ?_
 refine SOps.split (fun zq => [(18, .bool zq), (17, .bool zq), (16, .int .i64 long), (15, .bool true), (14, .bool true), (13, .pointer (some ⟨d, 0, none⟩)), (0, .pointer (some ⟨d, 0, none⟩)), (1, .int .i64 t), (2, .int .i64 i), (3, .int .i64 x), (4, .int .i64 long), (10, .pointer (some ⟨bx1, 0, none⟩))]) (decide (long < 1)) (fun hx2 => ?_) (fun hx2 => ?_)
 ·have hx2 : long < 1 := by simpa using hx2
  refine SOps.pures 4 (i' := 10) (m' := 0) (e' := [(22, .bool true), (21, .bool true), (20, .tuple #[]), (19, .tuple #[]), (18, .bool true), (17, .bool true), (16, .int .i64 long), (15, .bool true), (14, .bool true), (13, .pointer (some ⟨d, 0, none⟩)), (0, .pointer (some ⟨d, 0, none⟩)), (1, .int .i64 t), (2, .int .i64 i), (3, .int .i64 x), (4, .int .i64 long), (10, .pointer (some ⟨bx1, 0, none⟩))]) (by intro u; kernel_rfl) ?_
  refine SOps.nil (.inl rfl) ?_
  refine At.pick [0, 1, 2, 3, 4, 10, 22] (e' := [(0, .pointer (some ⟨d, 0, none⟩)), (1, .int .i64 t), (2, .int .i64 i), (3, .int .i64 x), (4, .int .i64 long), (10, .pointer (some ⟨bx1, 0, none⟩)), (22, .bool true)]) (by kernel_rfl) ?_
  refine At.cond 300 true (c := .tmp 22) (k1 := pt10_3) (k2 := pt10_4) (by kernel_rfl) (by intro u; kernel_rfl) (fun _ => ?_) (fun h => by cases h)
  refine At.pick [10] (e' := [(10, .pointer (some ⟨bx1, 0, none⟩))]) (by kernel_rfl) ?_
  refine At.region (ops := opt10_3) (m := 3) (k' := kt10_3) (by kernel_rfl) 300 (k'' := pt10_5) (by kernel_rfl) ?_
  refine SOps.pures 1 (i' := 1) (m' := 2) (e' := [(23, .agg #[.int .i64 0, .int .i64 0, .int .i64 0]), (10, .pointer (some ⟨bx1, 0, none⟩))]) (by intro u; kernel_rfl) ?_
  refine SOps.o (Op.st 0 27 bx1 0 (.agg #[.int .i64 0, .int .i64 0, .int .i64 0]) [.int .i64 0, .int .i64 0, .int .i64 0] 3 (B' := Cells bx1 27 [.int .i64 0, .int .i64 0, .int .i64 0]) (A' := [Cells bx1 27 [.int .i64 0, .int .i64 0, .int .i64 0], DeskC d s]) rfl (by intro u; kernel_rfl) rfl (by kernel_rfl) rfl rfl (Wr.cells rfl rfl) rfl ?_)
  refine SOps.pures 1 (i' := 3) (m' := 0) (e' := [(11, .int .i64 2), (23, .agg #[.int .i64 0, .int .i64 0, .int .i64 0]), (10, .pointer (some ⟨bx1, 0, none⟩))]) (by intro u; kernel_rfl) ?_
  refine SOps.nil (.inl rfl) ?_
  refine At.pick [10, 11] (e' := [(10, .pointer (some ⟨bx1, 0, none⟩)), (11, .int .i64 2)]) (by kernel_rfl) ?_
  refine At.retCT 0 (fn := Try.f10) (v := .tuple #[.agg #[.int .i64 0, .int .i64 0, .int .i64 0], .int .i64 2]) (a := 10) (ty := 27) (b := bx1) (o := 0) (n := 3) (t := 11) (u := .int .i64 2) (vs := [.int .i64 0, .int .i64 0, .int .i64 0]) (by kernel_rfl) Try.func10 (by kernel_rfl) (by kernel_rfl) (by kernel_rfl) rfl (by kernel_rfl) (by kernel_rfl) rfl ⟨(Rd.cells rfl), (Rd.cells rfl), (Rd.cells rfl), trivial⟩ rfl (fun F w ho => ?_)
  exact shutV (rfl) [1] rfl ho
 ·have hx2 : long ≥ 1 := by simpa using hx2
  exact absurd hx2 (by omega)
theorem renewBad2 (d : Nat) (s : De) (t i x long : Int) (hc : 1 ≤ long) (hd : 1099511627776 < long) : Ctr Try.prog 10 #[.pointer (some ⟨d, 0, none⟩), .int .i64 t, .int .i64 i, .int .i64 x, .int .i64 long] [DeskC d s] (fun v' => star (fact (v' = .tuple #[.agg #[.int .i64 0, .int .i64 0, .int .i64 0], .int .i64 2]) :: [DeskC d s])) false := by
 refine spec_of_at (fn := Try.f10) (c := bd10) (args := [.pointer (some ⟨d, 0, none⟩), .int .i64 t, .int .i64 i, .int .i64 x, .int .i64 long]) (n := 65) (e := [(0, .pointer (some ⟨d, 0, none⟩)), (1, .int .i64 t), (2, .int .i64 i), (3, .int .i64 x), (4, .int .i64 long)]) (k := pt10_0) Try.func10 (by kernel_rfl) (by kernel_rfl) (by kernel_rfl) (by kernel_rfl) 300 (by kernel_rfl) ?_
 refine At.region (ops := opt10_0) (m := 2) (k' := kt10_0) (by kernel_rfl) 300 (k'' := pt10_1) (by kernel_rfl) ?_
 refine SOps.o (Op.new 10 27 [.int .i64 0, .int .i64 0, .int .i64 0] (fun b => .pointer (some ⟨b, 0, none⟩)) (by intro u b; kernel_rfl) ?_)
 intro bx1
 refine SOps.pures 1 (i' := 2) (m' := 0) (e' := [(11, .int .i64 0), (10, .pointer (some ⟨bx1, 0, none⟩)), (0, .pointer (some ⟨d, 0, none⟩)), (1, .int .i64 t), (2, .int .i64 i), (3, .int .i64 x), (4, .int .i64 long)]) (by intro u; kernel_rfl) ?_
 refine SOps.nil (.inl rfl) ?_
 refine At.pick [0, 1, 2, 3, 4, 10] (e' := [(0, .pointer (some ⟨d, 0, none⟩)), (1, .int .i64 t), (2, .int .i64 i), (3, .int .i64 x), (4, .int .i64 long), (10, .pointer (some ⟨bx1, 0, none⟩))]) (by kernel_rfl) ?_
 refine At.region (ops := opt10_1) (m := 10) (k' := kt10_2) (by kernel_rfl) 300 (k'' := pt10_2) (by kernel_rfl) ?_
 refine SOps.pures 6 (i' := 6) (m' := 4) (e' := [(18, .bool (decide (long < 1))), (17, .bool (decide (long < 1))), (16, .int .i64 long), (15, .bool true), (14, .bool true), (13, .pointer (some ⟨d, 0, none⟩)), (0, .pointer (some ⟨d, 0, none⟩)), (1, .int .i64 t), (2, .int .i64 i), (3, .int .i64 x), (4, .int .i64 long), (10, .pointer (some ⟨bx1, 0, none⟩))]) (by intro u; kernel_rfl) ?_
 refine SOps.split (fun zq => [(18, .bool zq), (17, .bool zq), (16, .int .i64 long), (15, .bool true), (14, .bool true), (13, .pointer (some ⟨d, 0, none⟩)), (0, .pointer (some ⟨d, 0, none⟩)), (1, .int .i64 t), (2, .int .i64 i), (3, .int .i64 x), (4, .int .i64 long), (10, .pointer (some ⟨bx1, 0, none⟩))]) (decide (long < 1)) (fun hx2 => ?_) (fun hx2 => ?_)
 ·have hx2 : long < 1 := by simpa using hx2
  exact absurd hx2 (by omega)
 ·have hx2 : long ≥ 1 := by simpa using hx2
  refine SOps.pures 4 (i' := 10) (m' := 0) (e' := [(22, .bool (decide (long > 1099511627776))), (21, .bool (decide (long > 1099511627776))), (20, .bool (decide (long > 1099511627776))), (19, .int .i64 long), (18, .bool false), (17, .bool false), (16, .int .i64 long), (15, .bool true), (14, .bool true), (13, .pointer (some ⟨d, 0, none⟩)), (0, .pointer (some ⟨d, 0, none⟩)), (1, .int .i64 t), (2, .int .i64 i), (3, .int .i64 x), (4, .int .i64 long), (10, .pointer (some ⟨bx1, 0, none⟩))]) (by intro u; kernel_rfl) ?_
  refine SOps.nil (.inl rfl) ?_
  refine At.pick [0, 1, 2, 3, 4, 10, 22] (e' := [(0, .pointer (some ⟨d, 0, none⟩)), (1, .int .i64 t), (2, .int .i64 i), (3, .int .i64 x), (4, .int .i64 long), (10, .pointer (some ⟨bx1, 0, none⟩)), (22, .bool (decide (long > 1099511627776)))]) (by kernel_rfl) ?_
  refine At.split (fun zq => [(0, .pointer (some ⟨d, 0, none⟩)), (1, .int .i64 t), (2, .int .i64 i), (3, .int .i64 x), (4, .int .i64 long), (10, .pointer (some ⟨bx1, 0, none⟩)), (22, .bool zq)]) (decide (long > 1099511627776)) (fun hx3 => ?_) (fun hx3 => ?_)
  ·have hx3 : long > 1099511627776 := by simpa using hx3
   refine At.cond 300 true (c := .tmp 22) (k1 := pt10_3) (k2 := pt10_4) (by kernel_rfl) (by intro u; kernel_rfl) (fun _ => ?_) (fun h => by cases h)
   refine At.pick [10] (e' := [(10, .pointer (some ⟨bx1, 0, none⟩))]) (by kernel_rfl) ?_
   refine At.region (ops := opt10_3) (m := 3) (k' := kt10_3) (by kernel_rfl) 300 (k'' := pt10_5) (by kernel_rfl) ?_
   refine SOps.pures 1 (i' := 1) (m' := 2) (e' := [(23, .agg #[.int .i64 0, .int .i64 0, .int .i64 0]), (10, .pointer (some ⟨bx1, 0, none⟩))]) (by intro u; kernel_rfl) ?_
   refine SOps.o (Op.st 0 27 bx1 0 (.agg #[.int .i64 0, .int .i64 0, .int .i64 0]) [.int .i64 0, .int .i64 0, .int .i64 0] 3 (B' := Cells bx1 27 [.int .i64 0, .int .i64 0, .int .i64 0]) (A' := [Cells bx1 27 [.int .i64 0, .int .i64 0, .int .i64 0], DeskC d s]) rfl (by intro u; kernel_rfl) rfl (by kernel_rfl) rfl rfl (Wr.cells rfl rfl) rfl ?_)
   refine SOps.pures 1 (i' := 3) (m' := 0) (e' := [(11, .int .i64 2), (23, .agg #[.int .i64 0, .int .i64 0, .int .i64 0]), (10, .pointer (some ⟨bx1, 0, none⟩))]) (by intro u; kernel_rfl) ?_
   refine SOps.nil (.inl rfl) ?_
   refine At.pick [10, 11] (e' := [(10, .pointer (some ⟨bx1, 0, none⟩)), (11, .int .i64 2)]) (by kernel_rfl) ?_
   refine At.retCT 0 (fn := Try.f10) (v := .tuple #[.agg #[.int .i64 0, .int .i64 0, .int .i64 0], .int .i64 2]) (a := 10) (ty := 27) (b := bx1) (o := 0) (n := 3) (t := 11) (u := .int .i64 2) (vs := [.int .i64 0, .int .i64 0, .int .i64 0]) (by kernel_rfl) Try.func10 (by kernel_rfl) (by kernel_rfl) (by kernel_rfl) rfl (by kernel_rfl) (by kernel_rfl) rfl ⟨(Rd.cells rfl), (Rd.cells rfl), (Rd.cells rfl), trivial⟩ rfl (fun F w ho => ?_)
   exact shutV (rfl) [1] rfl ho
  ·have hx3 : long ≤ 1099511627776 := by simpa using hx3
   exact absurd hx3 (by omega)
theorem renewOut1 (d : Nat) (s : De) (t i x long : Int) (hl : 1 ≤ long) (hm : long ≤ 1099511627776) (hi : i < 0) : Ctr Try.prog 10 #[.pointer (some ⟨d, 0, none⟩), .int .i64 t, .int .i64 i, .int .i64 x, .int .i64 long] [DeskC d s] (fun v' => star (fact (v' = .tuple #[.agg #[.int .i64 0, .int .i64 0, .int .i64 0], .int .i64 2]) :: [DeskC d s])) false := by
 refine spec_of_at (fn := Try.f10) (c := bd10) (args := [.pointer (some ⟨d, 0, none⟩), .int .i64 t, .int .i64 i, .int .i64 x, .int .i64 long]) (n := 65) (e := [(0, .pointer (some ⟨d, 0, none⟩)), (1, .int .i64 t), (2, .int .i64 i), (3, .int .i64 x), (4, .int .i64 long)]) (k := pt10_0) Try.func10 (by kernel_rfl) (by kernel_rfl) (by kernel_rfl) (by kernel_rfl) 300 (by kernel_rfl) ?_
 refine At.region (ops := opt10_0) (m := 2) (k' := kt10_0) (by kernel_rfl) 300 (k'' := pt10_1) (by kernel_rfl) ?_
 refine SOps.o (Op.new 10 27 [.int .i64 0, .int .i64 0, .int .i64 0] (fun b => .pointer (some ⟨b, 0, none⟩)) (by intro u b; kernel_rfl) ?_)
 intro bx1
 refine SOps.pures 1 (i' := 2) (m' := 0) (e' := [(11, .int .i64 0), (10, .pointer (some ⟨bx1, 0, none⟩)), (0, .pointer (some ⟨d, 0, none⟩)), (1, .int .i64 t), (2, .int .i64 i), (3, .int .i64 x), (4, .int .i64 long)]) (by intro u; kernel_rfl) ?_
 refine SOps.nil (.inl rfl) ?_
 refine At.pick [0, 1, 2, 3, 4, 10] (e' := [(0, .pointer (some ⟨d, 0, none⟩)), (1, .int .i64 t), (2, .int .i64 i), (3, .int .i64 x), (4, .int .i64 long), (10, .pointer (some ⟨bx1, 0, none⟩))]) (by kernel_rfl) ?_
 refine At.region (ops := opt10_1) (m := 10) (k' := kt10_2) (by kernel_rfl) 300 (k'' := pt10_2) (by kernel_rfl) ?_
 refine SOps.pures 6 (i' := 6) (m' := 4) (e' := [(18, .bool (decide (long < 1))), (17, .bool (decide (long < 1))), (16, .int .i64 long), (15, .bool true), (14, .bool true), (13, .pointer (some ⟨d, 0, none⟩)), (0, .pointer (some ⟨d, 0, none⟩)), (1, .int .i64 t), (2, .int .i64 i), (3, .int .i64 x), (4, .int .i64 long), (10, .pointer (some ⟨bx1, 0, none⟩))]) (by intro u; kernel_rfl) ?_
 refine SOps.split (fun zq => [(18, .bool zq), (17, .bool zq), (16, .int .i64 long), (15, .bool true), (14, .bool true), (13, .pointer (some ⟨d, 0, none⟩)), (0, .pointer (some ⟨d, 0, none⟩)), (1, .int .i64 t), (2, .int .i64 i), (3, .int .i64 x), (4, .int .i64 long), (10, .pointer (some ⟨bx1, 0, none⟩))]) (decide (long < 1)) (fun hx2 => ?_) (fun hx2 => ?_)
 ·have hx2 : long < 1 := by simpa using hx2
  exact absurd hx2 (by omega)
 ·have hx2 : long ≥ 1 := by simpa using hx2
  refine SOps.pures 4 (i' := 10) (m' := 0) (e' := [(22, .bool (decide (long > 1099511627776))), (21, .bool (decide (long > 1099511627776))), (20, .bool (decide (long > 1099511627776))), (19, .int .i64 long), (18, .bool false), (17, .bool false), (16, .int .i64 long), (15, .bool true), (14, .bool true), (13, .pointer (some ⟨d, 0, none⟩)), (0, .pointer (some ⟨d, 0, none⟩)), (1, .int .i64 t), (2, .int .i64 i), (3, .int .i64 x), (4, .int .i64 long), (10, .pointer (some ⟨bx1, 0, none⟩))]) (by intro u; kernel_rfl) ?_
  refine SOps.nil (.inl rfl) ?_
  refine At.pick [0, 1, 2, 3, 4, 10, 22] (e' := [(0, .pointer (some ⟨d, 0, none⟩)), (1, .int .i64 t), (2, .int .i64 i), (3, .int .i64 x), (4, .int .i64 long), (10, .pointer (some ⟨bx1, 0, none⟩)), (22, .bool (decide (long > 1099511627776)))]) (by kernel_rfl) ?_
  refine At.split (fun zq => [(0, .pointer (some ⟨d, 0, none⟩)), (1, .int .i64 t), (2, .int .i64 i), (3, .int .i64 x), (4, .int .i64 long), (10, .pointer (some ⟨bx1, 0, none⟩)), (22, .bool zq)]) (decide (long > 1099511627776)) (fun hx3 => ?_) (fun hx3 => ?_)
  ·have hx3 : long > 1099511627776 := by simpa using hx3
   exact absurd hx3 (by omega)
  ·have hx3 : long ≤ 1099511627776 := by simpa using hx3
   refine At.cond 300 false (c := .tmp 22) (k1 := pt10_3) (k2 := pt10_4) (by kernel_rfl) (by intro u; kernel_rfl) (fun h => by cases h) (fun _ => ?_)
   refine At.pick [0, 1, 2, 3, 4, 10] (e' := [(0, .pointer (some ⟨d, 0, none⟩)), (1, .int .i64 t), (2, .int .i64 i), (3, .int .i64 x), (4, .int .i64 long), (10, .pointer (some ⟨bx1, 0, none⟩))]) (by kernel_rfl) ?_
   refine At.region (ops := opt10_4) (m := 5) (k' := kt10_4) (by kernel_rfl) 300 (k'' := pt10_6) (by kernel_rfl) ?_
   refine SOps.pures 3 (i' := 3) (m' := 2) (e' := [(26, .int .i64 i), (25, .int .i64 t), (24, .pointer (some ⟨d, 0, none⟩)), (0, .pointer (some ⟨d, 0, none⟩)), (1, .int .i64 t), (2, .int .i64 i), (3, .int .i64 x), (4, .int .i64 long), (10, .pointer (some ⟨bx1, 0, none⟩))]) (by intro u; kernel_rfl) ?_
   refine SOps.o (Op.callS 27 14 #[.pointer (some ⟨d, 0, none⟩), .int .i64 t, .int .i64 i] (.pointer none) [1] (B := [DeskC d s]) (D := [Cells bx1 27 [.int .i64 0, .int .i64 0, .int .i64 0]]) (by intro u; kernel_rfl) (atB d s t i (by omega)) (by first | exact .inr rfl | exact .inl rfl) (by kernel_rfl) ?_)
   refine SOps.pures 1 (i' := 5) (m' := 0) (e' := [(12, .pointer none), (27, .pointer none), (26, .int .i64 i), (25, .int .i64 t), (24, .pointer (some ⟨d, 0, none⟩)), (0, .pointer (some ⟨d, 0, none⟩)), (1, .int .i64 t), (2, .int .i64 i), (3, .int .i64 x), (4, .int .i64 long), (10, .pointer (some ⟨bx1, 0, none⟩))]) (by intro u; kernel_rfl) ?_
   refine SOps.nil (.inl rfl) ?_
   refine At.pick [0, 2, 3, 4, 10, 12] (e' := [(0, .pointer (some ⟨d, 0, none⟩)), (2, .int .i64 i), (3, .int .i64 x), (4, .int .i64 long), (10, .pointer (some ⟨bx1, 0, none⟩)), (12, .pointer none)]) (by kernel_rfl) ?_
   refine At.region (ops := opt10_6) (m := 3) (k' := kt10_7) (by kernel_rfl) 300 (k'' := pt10_7) (by kernel_rfl) ?_
   refine SOps.pures 3 (i' := 3) (m' := 0) (e' := [(28, .bool true), (30, .bool true), (29, .pointer none), (0, .pointer (some ⟨d, 0, none⟩)), (2, .int .i64 i), (3, .int .i64 x), (4, .int .i64 long), (10, .pointer (some ⟨bx1, 0, none⟩)), (12, .pointer none)]) (by intro u; kernel_rfl) ?_
   refine SOps.nil (.inl rfl) ?_
   refine At.pick [0, 2, 3, 4, 10, 12, 28] (e' := [(0, .pointer (some ⟨d, 0, none⟩)), (2, .int .i64 i), (3, .int .i64 x), (4, .int .i64 long), (10, .pointer (some ⟨bx1, 0, none⟩)), (12, .pointer none), (28, .bool true)]) (by kernel_rfl) ?_
   refine At.cond 300 true (c := .tmp 28) (k1 := pt10_8) (k2 := pt10_9) (by kernel_rfl) (by intro u; kernel_rfl) (fun _ => ?_) (fun h => by cases h)
   refine At.pick [0, 10] (e' := [(0, .pointer (some ⟨d, 0, none⟩)), (10, .pointer (some ⟨bx1, 0, none⟩))]) (by kernel_rfl) ?_
   refine At.region (ops := opt10_8) (m := 5) (k' := kt10_8) (by kernel_rfl) 300 (k'' := pt10_10) (by kernel_rfl) ?_
   refine SOps.pures 2 (i' := 2) (m' := 3) (e' := [(32, .pointer (some ⟨d, 0, none⟩)), (31, .agg #[.int .i64 0, .int .i64 0, .int .i64 0]), (0, .pointer (some ⟨d, 0, none⟩)), (10, .pointer (some ⟨bx1, 0, none⟩))]) (by intro u; kernel_rfl) ?_
   refine SOps.o (Op.callS 33 16 #[.pointer (some ⟨d, 0, none⟩)] (.int .i64 2) [] (B := []) (D := [DeskC d s, Cells bx1 27 [.int .i64 0, .int .i64 0, .int .i64 0]]) (by intro u; kernel_rfl) (missingM d) (by first | exact .inr rfl | exact .inl rfl) (by kernel_rfl) ?_)
   refine SOps.o (Op.st 1 27 bx1 0 (.agg #[.int .i64 0, .int .i64 0, .int .i64 0]) [.int .i64 0, .int .i64 0, .int .i64 0] 3 (B' := Cells bx1 27 [.int .i64 0, .int .i64 0, .int .i64 0]) (A' := [DeskC d s, Cells bx1 27 [.int .i64 0, .int .i64 0, .int .i64 0]]) rfl (by intro u; kernel_rfl) rfl (by kernel_rfl) rfl rfl (Wr.cells rfl rfl) rfl ?_)
   refine SOps.pures 1 (i' := 5) (m' := 0) (e' := [(11, .int .i64 2), (33, .int .i64 2), (32, .pointer (some ⟨d, 0, none⟩)), (31, .agg #[.int .i64 0, .int .i64 0, .int .i64 0]), (0, .pointer (some ⟨d, 0, none⟩)), (10, .pointer (some ⟨bx1, 0, none⟩))]) (by intro u; kernel_rfl) ?_
   refine SOps.nil (.inl rfl) ?_
   refine At.pick [10, 11] (e' := [(10, .pointer (some ⟨bx1, 0, none⟩)), (11, .int .i64 2)]) (by kernel_rfl) ?_
   refine At.retCT 1 (fn := Try.f10) (v := .tuple #[.agg #[.int .i64 0, .int .i64 0, .int .i64 0], .int .i64 2]) (a := 10) (ty := 27) (b := bx1) (o := 0) (n := 3) (t := 11) (u := .int .i64 2) (vs := [.int .i64 0, .int .i64 0, .int .i64 0]) (by kernel_rfl) Try.func10 (by kernel_rfl) (by kernel_rfl) (by kernel_rfl) rfl (by kernel_rfl) (by kernel_rfl) rfl ⟨(Rd.cells rfl), (Rd.cells rfl), (Rd.cells rfl), trivial⟩ rfl (fun F w ho => ?_)
   exact shutV (rfl) [0] rfl ho
theorem renewOut2 (d : Nat) (s : De) (t i x long : Int) (hl : 1 ≤ long) (hm : long ≤ 1099511627776) (hi : 256 ≤ i) : Ctr Try.prog 10 #[.pointer (some ⟨d, 0, none⟩), .int .i64 t, .int .i64 i, .int .i64 x, .int .i64 long] [DeskC d s] (fun v' => star (fact (v' = .tuple #[.agg #[.int .i64 0, .int .i64 0, .int .i64 0], .int .i64 2]) :: [DeskC d s])) false := by
 refine spec_of_at (fn := Try.f10) (c := bd10) (args := [.pointer (some ⟨d, 0, none⟩), .int .i64 t, .int .i64 i, .int .i64 x, .int .i64 long]) (n := 65) (e := [(0, .pointer (some ⟨d, 0, none⟩)), (1, .int .i64 t), (2, .int .i64 i), (3, .int .i64 x), (4, .int .i64 long)]) (k := pt10_0) Try.func10 (by kernel_rfl) (by kernel_rfl) (by kernel_rfl) (by kernel_rfl) 300 (by kernel_rfl) ?_
 refine At.region (ops := opt10_0) (m := 2) (k' := kt10_0) (by kernel_rfl) 300 (k'' := pt10_1) (by kernel_rfl) ?_
 refine SOps.o (Op.new 10 27 [.int .i64 0, .int .i64 0, .int .i64 0] (fun b => .pointer (some ⟨b, 0, none⟩)) (by intro u b; kernel_rfl) ?_)
 intro bx1
 refine SOps.pures 1 (i' := 2) (m' := 0) (e' := [(11, .int .i64 0), (10, .pointer (some ⟨bx1, 0, none⟩)), (0, .pointer (some ⟨d, 0, none⟩)), (1, .int .i64 t), (2, .int .i64 i), (3, .int .i64 x), (4, .int .i64 long)]) (by intro u; kernel_rfl) ?_
 refine SOps.nil (.inl rfl) ?_
 refine At.pick [0, 1, 2, 3, 4, 10] (e' := [(0, .pointer (some ⟨d, 0, none⟩)), (1, .int .i64 t), (2, .int .i64 i), (3, .int .i64 x), (4, .int .i64 long), (10, .pointer (some ⟨bx1, 0, none⟩))]) (by kernel_rfl) ?_
 refine At.region (ops := opt10_1) (m := 10) (k' := kt10_2) (by kernel_rfl) 300 (k'' := pt10_2) (by kernel_rfl) ?_
 refine SOps.pures 6 (i' := 6) (m' := 4) (e' := [(18, .bool (decide (long < 1))), (17, .bool (decide (long < 1))), (16, .int .i64 long), (15, .bool true), (14, .bool true), (13, .pointer (some ⟨d, 0, none⟩)), (0, .pointer (some ⟨d, 0, none⟩)), (1, .int .i64 t), (2, .int .i64 i), (3, .int .i64 x), (4, .int .i64 long), (10, .pointer (some ⟨bx1, 0, none⟩))]) (by intro u; kernel_rfl) ?_
 refine SOps.split (fun zq => [(18, .bool zq), (17, .bool zq), (16, .int .i64 long), (15, .bool true), (14, .bool true), (13, .pointer (some ⟨d, 0, none⟩)), (0, .pointer (some ⟨d, 0, none⟩)), (1, .int .i64 t), (2, .int .i64 i), (3, .int .i64 x), (4, .int .i64 long), (10, .pointer (some ⟨bx1, 0, none⟩))]) (decide (long < 1)) (fun hx2 => ?_) (fun hx2 => ?_)
 ·have hx2 : long < 1 := by simpa using hx2
  exact absurd hx2 (by omega)
 ·have hx2 : long ≥ 1 := by simpa using hx2
  refine SOps.pures 4 (i' := 10) (m' := 0) (e' := [(22, .bool (decide (long > 1099511627776))), (21, .bool (decide (long > 1099511627776))), (20, .bool (decide (long > 1099511627776))), (19, .int .i64 long), (18, .bool false), (17, .bool false), (16, .int .i64 long), (15, .bool true), (14, .bool true), (13, .pointer (some ⟨d, 0, none⟩)), (0, .pointer (some ⟨d, 0, none⟩)), (1, .int .i64 t), (2, .int .i64 i), (3, .int .i64 x), (4, .int .i64 long), (10, .pointer (some ⟨bx1, 0, none⟩))]) (by intro u; kernel_rfl) ?_
  refine SOps.nil (.inl rfl) ?_
  refine At.pick [0, 1, 2, 3, 4, 10, 22] (e' := [(0, .pointer (some ⟨d, 0, none⟩)), (1, .int .i64 t), (2, .int .i64 i), (3, .int .i64 x), (4, .int .i64 long), (10, .pointer (some ⟨bx1, 0, none⟩)), (22, .bool (decide (long > 1099511627776)))]) (by kernel_rfl) ?_
  refine At.split (fun zq => [(0, .pointer (some ⟨d, 0, none⟩)), (1, .int .i64 t), (2, .int .i64 i), (3, .int .i64 x), (4, .int .i64 long), (10, .pointer (some ⟨bx1, 0, none⟩)), (22, .bool zq)]) (decide (long > 1099511627776)) (fun hx3 => ?_) (fun hx3 => ?_)
  ·have hx3 : long > 1099511627776 := by simpa using hx3
   exact absurd hx3 (by omega)
  ·have hx3 : long ≤ 1099511627776 := by simpa using hx3
   refine At.cond 300 false (c := .tmp 22) (k1 := pt10_3) (k2 := pt10_4) (by kernel_rfl) (by intro u; kernel_rfl) (fun h => by cases h) (fun _ => ?_)
   refine At.pick [0, 1, 2, 3, 4, 10] (e' := [(0, .pointer (some ⟨d, 0, none⟩)), (1, .int .i64 t), (2, .int .i64 i), (3, .int .i64 x), (4, .int .i64 long), (10, .pointer (some ⟨bx1, 0, none⟩))]) (by kernel_rfl) ?_
   refine At.region (ops := opt10_4) (m := 5) (k' := kt10_4) (by kernel_rfl) 300 (k'' := pt10_6) (by kernel_rfl) ?_
   refine SOps.pures 3 (i' := 3) (m' := 2) (e' := [(26, .int .i64 i), (25, .int .i64 t), (24, .pointer (some ⟨d, 0, none⟩)), (0, .pointer (some ⟨d, 0, none⟩)), (1, .int .i64 t), (2, .int .i64 i), (3, .int .i64 x), (4, .int .i64 long), (10, .pointer (some ⟨bx1, 0, none⟩))]) (by intro u; kernel_rfl) ?_
   refine SOps.o (Op.callS 27 14 #[.pointer (some ⟨d, 0, none⟩), .int .i64 t, .int .i64 i] (.pointer none) [1] (B := [DeskC d s]) (D := [Cells bx1 27 [.int .i64 0, .int .i64 0, .int .i64 0]]) (by intro u; kernel_rfl) (atB d s t i (by omega)) (by first | exact .inr rfl | exact .inl rfl) (by kernel_rfl) ?_)
   refine SOps.pures 1 (i' := 5) (m' := 0) (e' := [(12, .pointer none), (27, .pointer none), (26, .int .i64 i), (25, .int .i64 t), (24, .pointer (some ⟨d, 0, none⟩)), (0, .pointer (some ⟨d, 0, none⟩)), (1, .int .i64 t), (2, .int .i64 i), (3, .int .i64 x), (4, .int .i64 long), (10, .pointer (some ⟨bx1, 0, none⟩))]) (by intro u; kernel_rfl) ?_
   refine SOps.nil (.inl rfl) ?_
   refine At.pick [0, 2, 3, 4, 10, 12] (e' := [(0, .pointer (some ⟨d, 0, none⟩)), (2, .int .i64 i), (3, .int .i64 x), (4, .int .i64 long), (10, .pointer (some ⟨bx1, 0, none⟩)), (12, .pointer none)]) (by kernel_rfl) ?_
   refine At.region (ops := opt10_6) (m := 3) (k' := kt10_7) (by kernel_rfl) 300 (k'' := pt10_7) (by kernel_rfl) ?_
   refine SOps.pures 3 (i' := 3) (m' := 0) (e' := [(28, .bool true), (30, .bool true), (29, .pointer none), (0, .pointer (some ⟨d, 0, none⟩)), (2, .int .i64 i), (3, .int .i64 x), (4, .int .i64 long), (10, .pointer (some ⟨bx1, 0, none⟩)), (12, .pointer none)]) (by intro u; kernel_rfl) ?_
   refine SOps.nil (.inl rfl) ?_
   refine At.pick [0, 2, 3, 4, 10, 12, 28] (e' := [(0, .pointer (some ⟨d, 0, none⟩)), (2, .int .i64 i), (3, .int .i64 x), (4, .int .i64 long), (10, .pointer (some ⟨bx1, 0, none⟩)), (12, .pointer none), (28, .bool true)]) (by kernel_rfl) ?_
   refine At.cond 300 true (c := .tmp 28) (k1 := pt10_8) (k2 := pt10_9) (by kernel_rfl) (by intro u; kernel_rfl) (fun _ => ?_) (fun h => by cases h)
   refine At.pick [0, 10] (e' := [(0, .pointer (some ⟨d, 0, none⟩)), (10, .pointer (some ⟨bx1, 0, none⟩))]) (by kernel_rfl) ?_
   refine At.region (ops := opt10_8) (m := 5) (k' := kt10_8) (by kernel_rfl) 300 (k'' := pt10_10) (by kernel_rfl) ?_
   refine SOps.pures 2 (i' := 2) (m' := 3) (e' := [(32, .pointer (some ⟨d, 0, none⟩)), (31, .agg #[.int .i64 0, .int .i64 0, .int .i64 0]), (0, .pointer (some ⟨d, 0, none⟩)), (10, .pointer (some ⟨bx1, 0, none⟩))]) (by intro u; kernel_rfl) ?_
   refine SOps.o (Op.callS 33 16 #[.pointer (some ⟨d, 0, none⟩)] (.int .i64 2) [] (B := []) (D := [DeskC d s, Cells bx1 27 [.int .i64 0, .int .i64 0, .int .i64 0]]) (by intro u; kernel_rfl) (missingM d) (by first | exact .inr rfl | exact .inl rfl) (by kernel_rfl) ?_)
   refine SOps.o (Op.st 1 27 bx1 0 (.agg #[.int .i64 0, .int .i64 0, .int .i64 0]) [.int .i64 0, .int .i64 0, .int .i64 0] 3 (B' := Cells bx1 27 [.int .i64 0, .int .i64 0, .int .i64 0]) (A' := [DeskC d s, Cells bx1 27 [.int .i64 0, .int .i64 0, .int .i64 0]]) rfl (by intro u; kernel_rfl) rfl (by kernel_rfl) rfl rfl (Wr.cells rfl rfl) rfl ?_)
   refine SOps.pures 1 (i' := 5) (m' := 0) (e' := [(11, .int .i64 2), (33, .int .i64 2), (32, .pointer (some ⟨d, 0, none⟩)), (31, .agg #[.int .i64 0, .int .i64 0, .int .i64 0]), (0, .pointer (some ⟨d, 0, none⟩)), (10, .pointer (some ⟨bx1, 0, none⟩))]) (by intro u; kernel_rfl) ?_
   refine SOps.nil (.inl rfl) ?_
   refine At.pick [10, 11] (e' := [(10, .pointer (some ⟨bx1, 0, none⟩)), (11, .int .i64 2)]) (by kernel_rfl) ?_
   refine At.retCT 1 (fn := Try.f10) (v := .tuple #[.agg #[.int .i64 0, .int .i64 0, .int .i64 0], .int .i64 2]) (a := 10) (ty := 27) (b := bx1) (o := 0) (n := 3) (t := 11) (u := .int .i64 2) (vs := [.int .i64 0, .int .i64 0, .int .i64 0]) (by kernel_rfl) Try.func10 (by kernel_rfl) (by kernel_rfl) (by kernel_rfl) rfl (by kernel_rfl) (by kernel_rfl) rfl ⟨(Rd.cells rfl), (Rd.cells rfl), (Rd.cells rfl), trivial⟩ rfl (fun F w ho => ?_)
   exact shutV (rfl) [0] rfl ho
theorem renewNo1 (d : Nat) (s : De) (t i x long : Int) (hl : 1 ≤ long) (hm : long ≤ 1099511627776) (h0 : 0 ≤ i) (h1 : i < 256) (hh : (s.tick t).held i.toNat = false) : Ctr Try.prog 10 #[.pointer (some ⟨d, 0, none⟩), .int .i64 t, .int .i64 i, .int .i64 x, .int .i64 long] [DeskC d s] (fun v' => star (fact (v' = .tuple #[.agg #[.int .i64 0, .int .i64 0, .int .i64 0], .int .i64 7]) :: [DeskC d (s.tick t)])) false := by
 have hi2 : i.toNat < 256 := by omega
 refine spec_of_at (fn := Try.f10) (c := bd10) (args := [.pointer (some ⟨d, 0, none⟩), .int .i64 t, .int .i64 i, .int .i64 x, .int .i64 long]) (n := 65) (e := [(0, .pointer (some ⟨d, 0, none⟩)), (1, .int .i64 t), (2, .int .i64 i), (3, .int .i64 x), (4, .int .i64 long)]) (k := pt10_0) Try.func10 (by kernel_rfl) (by kernel_rfl) (by kernel_rfl) (by kernel_rfl) 300 (by kernel_rfl) ?_
 refine At.region (ops := opt10_0) (m := 2) (k' := kt10_0) (by kernel_rfl) 300 (k'' := pt10_1) (by kernel_rfl) ?_
 refine SOps.o (Op.new 10 27 [.int .i64 0, .int .i64 0, .int .i64 0] (fun b => .pointer (some ⟨b, 0, none⟩)) (by intro u b; kernel_rfl) ?_)
 intro bx1
 refine SOps.pures 1 (i' := 2) (m' := 0) (e' := [(11, .int .i64 0), (10, .pointer (some ⟨bx1, 0, none⟩)), (0, .pointer (some ⟨d, 0, none⟩)), (1, .int .i64 t), (2, .int .i64 i), (3, .int .i64 x), (4, .int .i64 long)]) (by intro u; kernel_rfl) ?_
 refine SOps.nil (.inl rfl) ?_
 refine At.pick [0, 1, 2, 3, 4, 10] (e' := [(0, .pointer (some ⟨d, 0, none⟩)), (1, .int .i64 t), (2, .int .i64 i), (3, .int .i64 x), (4, .int .i64 long), (10, .pointer (some ⟨bx1, 0, none⟩))]) (by kernel_rfl) ?_
 refine At.region (ops := opt10_1) (m := 10) (k' := kt10_2) (by kernel_rfl) 300 (k'' := pt10_2) (by kernel_rfl) ?_
 refine SOps.pures 6 (i' := 6) (m' := 4) (e' := [(18, .bool (decide (long < 1))), (17, .bool (decide (long < 1))), (16, .int .i64 long), (15, .bool true), (14, .bool true), (13, .pointer (some ⟨d, 0, none⟩)), (0, .pointer (some ⟨d, 0, none⟩)), (1, .int .i64 t), (2, .int .i64 i), (3, .int .i64 x), (4, .int .i64 long), (10, .pointer (some ⟨bx1, 0, none⟩))]) (by intro u; kernel_rfl) ?_
 refine SOps.split (fun zq => [(18, .bool zq), (17, .bool zq), (16, .int .i64 long), (15, .bool true), (14, .bool true), (13, .pointer (some ⟨d, 0, none⟩)), (0, .pointer (some ⟨d, 0, none⟩)), (1, .int .i64 t), (2, .int .i64 i), (3, .int .i64 x), (4, .int .i64 long), (10, .pointer (some ⟨bx1, 0, none⟩))]) (decide (long < 1)) (fun hx2 => ?_) (fun hx2 => ?_)
 ·have hx2 : long < 1 := by simpa using hx2
  exact absurd hx2 (by omega)
 ·have hx2 : long ≥ 1 := by simpa using hx2
  refine SOps.pures 4 (i' := 10) (m' := 0) (e' := [(22, .bool (decide (long > 1099511627776))), (21, .bool (decide (long > 1099511627776))), (20, .bool (decide (long > 1099511627776))), (19, .int .i64 long), (18, .bool false), (17, .bool false), (16, .int .i64 long), (15, .bool true), (14, .bool true), (13, .pointer (some ⟨d, 0, none⟩)), (0, .pointer (some ⟨d, 0, none⟩)), (1, .int .i64 t), (2, .int .i64 i), (3, .int .i64 x), (4, .int .i64 long), (10, .pointer (some ⟨bx1, 0, none⟩))]) (by intro u; kernel_rfl) ?_
  refine SOps.nil (.inl rfl) ?_
  refine At.pick [0, 1, 2, 3, 4, 10, 22] (e' := [(0, .pointer (some ⟨d, 0, none⟩)), (1, .int .i64 t), (2, .int .i64 i), (3, .int .i64 x), (4, .int .i64 long), (10, .pointer (some ⟨bx1, 0, none⟩)), (22, .bool (decide (long > 1099511627776)))]) (by kernel_rfl) ?_
  refine At.split (fun zq => [(0, .pointer (some ⟨d, 0, none⟩)), (1, .int .i64 t), (2, .int .i64 i), (3, .int .i64 x), (4, .int .i64 long), (10, .pointer (some ⟨bx1, 0, none⟩)), (22, .bool zq)]) (decide (long > 1099511627776)) (fun hx3 => ?_) (fun hx3 => ?_)
  ·have hx3 : long > 1099511627776 := by simpa using hx3
   exact absurd hx3 (by omega)
  ·have hx3 : long ≤ 1099511627776 := by simpa using hx3
   refine At.cond 300 false (c := .tmp 22) (k1 := pt10_3) (k2 := pt10_4) (by kernel_rfl) (by intro u; kernel_rfl) (fun h => by cases h) (fun _ => ?_)
   refine At.pick [0, 1, 2, 3, 4, 10] (e' := [(0, .pointer (some ⟨d, 0, none⟩)), (1, .int .i64 t), (2, .int .i64 i), (3, .int .i64 x), (4, .int .i64 long), (10, .pointer (some ⟨bx1, 0, none⟩))]) (by kernel_rfl) ?_
   refine At.region (ops := opt10_4) (m := 5) (k' := kt10_4) (by kernel_rfl) 300 (k'' := pt10_6) (by kernel_rfl) ?_
   refine SOps.pures 3 (i' := 3) (m' := 2) (e' := [(26, .int .i64 i), (25, .int .i64 t), (24, .pointer (some ⟨d, 0, none⟩)), (0, .pointer (some ⟨d, 0, none⟩)), (1, .int .i64 t), (2, .int .i64 i), (3, .int .i64 x), (4, .int .i64 long), (10, .pointer (some ⟨bx1, 0, none⟩))]) (by intro u; kernel_rfl) ?_
   refine SOps.o (Op.callS 27 14 #[.pointer (some ⟨d, 0, none⟩), .int .i64 t, .int .i64 i] (.pointer (some ⟨d, 2 + i.toNat * 3, none⟩)) [1] (B := [DeskC d s]) (D := [Cells bx1 27 [.int .i64 0, .int .i64 0, .int .i64 0]]) (by intro u; kernel_rfl) (atM d s t i (by omega) (by omega)) (by first | exact .inr rfl | exact .inl rfl) (by kernel_rfl) ?_)
   refine SOps.pures 1 (i' := 5) (m' := 0) (e' := [(12, .pointer (some ⟨d, 2 + i.toNat * 3, none⟩)), (27, .pointer (some ⟨d, 2 + i.toNat * 3, none⟩)), (26, .int .i64 i), (25, .int .i64 t), (24, .pointer (some ⟨d, 0, none⟩)), (0, .pointer (some ⟨d, 0, none⟩)), (1, .int .i64 t), (2, .int .i64 i), (3, .int .i64 x), (4, .int .i64 long), (10, .pointer (some ⟨bx1, 0, none⟩))]) (by intro u; kernel_rfl) ?_
   refine SOps.nil (.inl rfl) ?_
   refine At.pick [0, 2, 3, 4, 10, 12] (e' := [(0, .pointer (some ⟨d, 0, none⟩)), (2, .int .i64 i), (3, .int .i64 x), (4, .int .i64 long), (10, .pointer (some ⟨bx1, 0, none⟩)), (12, .pointer (some ⟨d, 2 + i.toNat * 3, none⟩))]) (by kernel_rfl) ?_
   refine At.region (ops := opt10_6) (m := 3) (k' := kt10_7) (by kernel_rfl) 300 (k'' := pt10_7) (by kernel_rfl) ?_
   refine SOps.pures 3 (i' := 3) (m' := 0) (e' := [(28, .bool false), (30, .bool false), (29, .pointer (some ⟨d, 2 + i.toNat * 3, none⟩)), (0, .pointer (some ⟨d, 0, none⟩)), (2, .int .i64 i), (3, .int .i64 x), (4, .int .i64 long), (10, .pointer (some ⟨bx1, 0, none⟩)), (12, .pointer (some ⟨d, 2 + i.toNat * 3, none⟩))]) (by intro u; kernel_rfl) ?_
   refine SOps.nil (.inl rfl) ?_
   refine At.pick [0, 2, 3, 4, 10, 12, 28] (e' := [(0, .pointer (some ⟨d, 0, none⟩)), (2, .int .i64 i), (3, .int .i64 x), (4, .int .i64 long), (10, .pointer (some ⟨bx1, 0, none⟩)), (12, .pointer (some ⟨d, 2 + i.toNat * 3, none⟩)), (28, .bool false)]) (by kernel_rfl) ?_
   refine At.cond 300 false (c := .tmp 28) (k1 := pt10_8) (k2 := pt10_9) (by kernel_rfl) (by intro u; kernel_rfl) (fun h => by cases h) (fun _ => ?_)
   refine At.pick [0, 2, 3, 4, 10, 12] (e' := [(0, .pointer (some ⟨d, 0, none⟩)), (2, .int .i64 i), (3, .int .i64 x), (4, .int .i64 long), (10, .pointer (some ⟨bx1, 0, none⟩)), (12, .pointer (some ⟨d, 2 + i.toNat * 3, none⟩))]) (by kernel_rfl) ?_
   refine At.region (ops := opt10_9) (m := 13) (k' := kt10_9) (by kernel_rfl) 300 (k'' := pt10_11) (by kernel_rfl) ?_
   refine SOps.pures 2 (i' := 2) (m' := 11) (e' := [(36, .int .i64 i), (35, .pointer (some ⟨d, 0, none⟩)), (0, .pointer (some ⟨d, 0, none⟩)), (2, .int .i64 i), (3, .int .i64 x), (4, .int .i64 long), (10, .pointer (some ⟨bx1, 0, none⟩)), (12, .pointer (some ⟨d, 2 + i.toNat * 3, none⟩))]) (by intro u; kernel_rfl) ?_
   have hc := heldM d (s.tick t) i (by omega) (by omega)
   rw [show (s.tick t).held i.toNat = false from hh] at hc
   refine SOps.o (Op.callS 37 15 #[.pointer (some ⟨d, 0, none⟩), .int .i64 i] (.bool false) [0] (B := [DeskC d (s.tick t)]) (D := [Cells bx1 27 [.int .i64 0, .int .i64 0, .int .i64 0]]) (by intro u; kernel_rfl) (hc) (by first | exact .inr rfl | exact .inl rfl) (by kernel_rfl) ?_)
   refine SOps.pures 10 (i' := 13) (m' := 0) (e' := [(34, .bool true), (46, .bool true), (45, .tuple #[]), (44, .tuple #[]), (43, .tuple #[]), (42, .tuple #[]), (41, .tuple #[]), (40, .tuple #[]), (39, .bool true), (38, .bool true), (37, .bool false), (36, .int .i64 i), (35, .pointer (some ⟨d, 0, none⟩)), (0, .pointer (some ⟨d, 0, none⟩)), (2, .int .i64 i), (3, .int .i64 x), (4, .int .i64 long), (10, .pointer (some ⟨bx1, 0, none⟩)), (12, .pointer (some ⟨d, 2 + i.toNat * 3, none⟩))]) (by intro u; kernel_rfl) ?_
   refine SOps.nil (.inl rfl) ?_
   refine At.pick [0, 4, 10, 12, 34] (e' := [(0, .pointer (some ⟨d, 0, none⟩)), (4, .int .i64 long), (10, .pointer (some ⟨bx1, 0, none⟩)), (12, .pointer (some ⟨d, 2 + i.toNat * 3, none⟩)), (34, .bool true)]) (by kernel_rfl) ?_
   refine At.cond 300 true (c := .tmp 34) (k1 := pt10_12) (k2 := pt10_13) (by kernel_rfl) (by intro u; kernel_rfl) (fun _ => ?_) (fun h => by cases h)
   refine At.pick [10] (e' := [(10, .pointer (some ⟨bx1, 0, none⟩))]) (by kernel_rfl) ?_
   refine At.region (ops := opt10_12) (m := 3) (k' := kt10_10) (by kernel_rfl) 300 (k'' := pt10_14) (by kernel_rfl) ?_
   refine SOps.pures 1 (i' := 1) (m' := 2) (e' := [(47, .agg #[.int .i64 0, .int .i64 0, .int .i64 0]), (10, .pointer (some ⟨bx1, 0, none⟩))]) (by intro u; kernel_rfl) ?_
   refine SOps.o (Op.st 1 27 bx1 0 (.agg #[.int .i64 0, .int .i64 0, .int .i64 0]) [.int .i64 0, .int .i64 0, .int .i64 0] 3 (B' := Cells bx1 27 [.int .i64 0, .int .i64 0, .int .i64 0]) (A' := [DeskC d (s.tick t), Cells bx1 27 [.int .i64 0, .int .i64 0, .int .i64 0]]) rfl (by intro u; kernel_rfl) rfl (by kernel_rfl) rfl rfl (Wr.cells rfl rfl) rfl ?_)
   refine SOps.pures 1 (i' := 3) (m' := 0) (e' := [(11, .int .i64 7), (47, .agg #[.int .i64 0, .int .i64 0, .int .i64 0]), (10, .pointer (some ⟨bx1, 0, none⟩))]) (by intro u; kernel_rfl) ?_
   refine SOps.nil (.inl rfl) ?_
   refine At.pick [10, 11] (e' := [(10, .pointer (some ⟨bx1, 0, none⟩)), (11, .int .i64 7)]) (by kernel_rfl) ?_
   refine At.retCT 1 (fn := Try.f10) (v := .tuple #[.agg #[.int .i64 0, .int .i64 0, .int .i64 0], .int .i64 7]) (a := 10) (ty := 27) (b := bx1) (o := 0) (n := 3) (t := 11) (u := .int .i64 7) (vs := [.int .i64 0, .int .i64 0, .int .i64 0]) (by kernel_rfl) Try.func10 (by kernel_rfl) (by kernel_rfl) (by kernel_rfl) rfl (by kernel_rfl) (by kernel_rfl) rfl ⟨(Rd.cells rfl), (Rd.cells rfl), (Rd.cells rfl), trivial⟩ rfl (fun F w ho => ?_)
   exact shutV (rfl) [0] rfl ho
theorem renewNo2 (d : Nat) (s : De) (t i x long : Int) (hl : 1 ≤ long) (hm : long ≤ 1099511627776) (h0 : 0 ≤ i) (h1 : i < 256) (hh : (s.tick t).held i.toNat = true) (hx : ((s.tick t).th i.toNat).tok ≠ x) : Ctr Try.prog 10 #[.pointer (some ⟨d, 0, none⟩), .int .i64 t, .int .i64 i, .int .i64 x, .int .i64 long] [DeskC d s] (fun v' => star (fact (v' = .tuple #[.agg #[.int .i64 0, .int .i64 0, .int .i64 0], .int .i64 7]) :: [DeskC d (s.tick t)])) false := by
 have hi2 : i.toNat < 256 := by omega
 refine spec_of_at (fn := Try.f10) (c := bd10) (args := [.pointer (some ⟨d, 0, none⟩), .int .i64 t, .int .i64 i, .int .i64 x, .int .i64 long]) (n := 65) (e := [(0, .pointer (some ⟨d, 0, none⟩)), (1, .int .i64 t), (2, .int .i64 i), (3, .int .i64 x), (4, .int .i64 long)]) (k := pt10_0) Try.func10 (by kernel_rfl) (by kernel_rfl) (by kernel_rfl) (by kernel_rfl) 300 (by kernel_rfl) ?_
 refine At.region (ops := opt10_0) (m := 2) (k' := kt10_0) (by kernel_rfl) 300 (k'' := pt10_1) (by kernel_rfl) ?_
 refine SOps.o (Op.new 10 27 [.int .i64 0, .int .i64 0, .int .i64 0] (fun b => .pointer (some ⟨b, 0, none⟩)) (by intro u b; kernel_rfl) ?_)
 intro bx1
 refine SOps.pures 1 (i' := 2) (m' := 0) (e' := [(11, .int .i64 0), (10, .pointer (some ⟨bx1, 0, none⟩)), (0, .pointer (some ⟨d, 0, none⟩)), (1, .int .i64 t), (2, .int .i64 i), (3, .int .i64 x), (4, .int .i64 long)]) (by intro u; kernel_rfl) ?_
 refine SOps.nil (.inl rfl) ?_
 refine At.pick [0, 1, 2, 3, 4, 10] (e' := [(0, .pointer (some ⟨d, 0, none⟩)), (1, .int .i64 t), (2, .int .i64 i), (3, .int .i64 x), (4, .int .i64 long), (10, .pointer (some ⟨bx1, 0, none⟩))]) (by kernel_rfl) ?_
 refine At.region (ops := opt10_1) (m := 10) (k' := kt10_2) (by kernel_rfl) 300 (k'' := pt10_2) (by kernel_rfl) ?_
 refine SOps.pures 6 (i' := 6) (m' := 4) (e' := [(18, .bool (decide (long < 1))), (17, .bool (decide (long < 1))), (16, .int .i64 long), (15, .bool true), (14, .bool true), (13, .pointer (some ⟨d, 0, none⟩)), (0, .pointer (some ⟨d, 0, none⟩)), (1, .int .i64 t), (2, .int .i64 i), (3, .int .i64 x), (4, .int .i64 long), (10, .pointer (some ⟨bx1, 0, none⟩))]) (by intro u; kernel_rfl) ?_
 refine SOps.split (fun zq => [(18, .bool zq), (17, .bool zq), (16, .int .i64 long), (15, .bool true), (14, .bool true), (13, .pointer (some ⟨d, 0, none⟩)), (0, .pointer (some ⟨d, 0, none⟩)), (1, .int .i64 t), (2, .int .i64 i), (3, .int .i64 x), (4, .int .i64 long), (10, .pointer (some ⟨bx1, 0, none⟩))]) (decide (long < 1)) (fun hx2 => ?_) (fun hx2 => ?_)
 ·have hx2 : long < 1 := by simpa using hx2
  exact absurd hx2 (by omega)
 ·have hx2 : long ≥ 1 := by simpa using hx2
  refine SOps.pures 4 (i' := 10) (m' := 0) (e' := [(22, .bool (decide (long > 1099511627776))), (21, .bool (decide (long > 1099511627776))), (20, .bool (decide (long > 1099511627776))), (19, .int .i64 long), (18, .bool false), (17, .bool false), (16, .int .i64 long), (15, .bool true), (14, .bool true), (13, .pointer (some ⟨d, 0, none⟩)), (0, .pointer (some ⟨d, 0, none⟩)), (1, .int .i64 t), (2, .int .i64 i), (3, .int .i64 x), (4, .int .i64 long), (10, .pointer (some ⟨bx1, 0, none⟩))]) (by intro u; kernel_rfl) ?_
  refine SOps.nil (.inl rfl) ?_
  refine At.pick [0, 1, 2, 3, 4, 10, 22] (e' := [(0, .pointer (some ⟨d, 0, none⟩)), (1, .int .i64 t), (2, .int .i64 i), (3, .int .i64 x), (4, .int .i64 long), (10, .pointer (some ⟨bx1, 0, none⟩)), (22, .bool (decide (long > 1099511627776)))]) (by kernel_rfl) ?_
  refine At.split (fun zq => [(0, .pointer (some ⟨d, 0, none⟩)), (1, .int .i64 t), (2, .int .i64 i), (3, .int .i64 x), (4, .int .i64 long), (10, .pointer (some ⟨bx1, 0, none⟩)), (22, .bool zq)]) (decide (long > 1099511627776)) (fun hx3 => ?_) (fun hx3 => ?_)
  ·have hx3 : long > 1099511627776 := by simpa using hx3
   exact absurd hx3 (by omega)
  ·have hx3 : long ≤ 1099511627776 := by simpa using hx3
   refine At.cond 300 false (c := .tmp 22) (k1 := pt10_3) (k2 := pt10_4) (by kernel_rfl) (by intro u; kernel_rfl) (fun h => by cases h) (fun _ => ?_)
   refine At.pick [0, 1, 2, 3, 4, 10] (e' := [(0, .pointer (some ⟨d, 0, none⟩)), (1, .int .i64 t), (2, .int .i64 i), (3, .int .i64 x), (4, .int .i64 long), (10, .pointer (some ⟨bx1, 0, none⟩))]) (by kernel_rfl) ?_
   refine At.region (ops := opt10_4) (m := 5) (k' := kt10_4) (by kernel_rfl) 300 (k'' := pt10_6) (by kernel_rfl) ?_
   refine SOps.pures 3 (i' := 3) (m' := 2) (e' := [(26, .int .i64 i), (25, .int .i64 t), (24, .pointer (some ⟨d, 0, none⟩)), (0, .pointer (some ⟨d, 0, none⟩)), (1, .int .i64 t), (2, .int .i64 i), (3, .int .i64 x), (4, .int .i64 long), (10, .pointer (some ⟨bx1, 0, none⟩))]) (by intro u; kernel_rfl) ?_
   refine SOps.o (Op.callS 27 14 #[.pointer (some ⟨d, 0, none⟩), .int .i64 t, .int .i64 i] (.pointer (some ⟨d, 2 + i.toNat * 3, none⟩)) [1] (B := [DeskC d s]) (D := [Cells bx1 27 [.int .i64 0, .int .i64 0, .int .i64 0]]) (by intro u; kernel_rfl) (atM d s t i (by omega) (by omega)) (by first | exact .inr rfl | exact .inl rfl) (by kernel_rfl) ?_)
   refine SOps.pures 1 (i' := 5) (m' := 0) (e' := [(12, .pointer (some ⟨d, 2 + i.toNat * 3, none⟩)), (27, .pointer (some ⟨d, 2 + i.toNat * 3, none⟩)), (26, .int .i64 i), (25, .int .i64 t), (24, .pointer (some ⟨d, 0, none⟩)), (0, .pointer (some ⟨d, 0, none⟩)), (1, .int .i64 t), (2, .int .i64 i), (3, .int .i64 x), (4, .int .i64 long), (10, .pointer (some ⟨bx1, 0, none⟩))]) (by intro u; kernel_rfl) ?_
   refine SOps.nil (.inl rfl) ?_
   refine At.pick [0, 2, 3, 4, 10, 12] (e' := [(0, .pointer (some ⟨d, 0, none⟩)), (2, .int .i64 i), (3, .int .i64 x), (4, .int .i64 long), (10, .pointer (some ⟨bx1, 0, none⟩)), (12, .pointer (some ⟨d, 2 + i.toNat * 3, none⟩))]) (by kernel_rfl) ?_
   refine At.region (ops := opt10_6) (m := 3) (k' := kt10_7) (by kernel_rfl) 300 (k'' := pt10_7) (by kernel_rfl) ?_
   refine SOps.pures 3 (i' := 3) (m' := 0) (e' := [(28, .bool false), (30, .bool false), (29, .pointer (some ⟨d, 2 + i.toNat * 3, none⟩)), (0, .pointer (some ⟨d, 0, none⟩)), (2, .int .i64 i), (3, .int .i64 x), (4, .int .i64 long), (10, .pointer (some ⟨bx1, 0, none⟩)), (12, .pointer (some ⟨d, 2 + i.toNat * 3, none⟩))]) (by intro u; kernel_rfl) ?_
   refine SOps.nil (.inl rfl) ?_
   refine At.pick [0, 2, 3, 4, 10, 12, 28] (e' := [(0, .pointer (some ⟨d, 0, none⟩)), (2, .int .i64 i), (3, .int .i64 x), (4, .int .i64 long), (10, .pointer (some ⟨bx1, 0, none⟩)), (12, .pointer (some ⟨d, 2 + i.toNat * 3, none⟩)), (28, .bool false)]) (by kernel_rfl) ?_
   refine At.cond 300 false (c := .tmp 28) (k1 := pt10_8) (k2 := pt10_9) (by kernel_rfl) (by intro u; kernel_rfl) (fun h => by cases h) (fun _ => ?_)
   refine At.pick [0, 2, 3, 4, 10, 12] (e' := [(0, .pointer (some ⟨d, 0, none⟩)), (2, .int .i64 i), (3, .int .i64 x), (4, .int .i64 long), (10, .pointer (some ⟨bx1, 0, none⟩)), (12, .pointer (some ⟨d, 2 + i.toNat * 3, none⟩))]) (by kernel_rfl) ?_
   refine At.region (ops := opt10_9) (m := 13) (k' := kt10_9) (by kernel_rfl) 300 (k'' := pt10_11) (by kernel_rfl) ?_
   refine SOps.pures 2 (i' := 2) (m' := 11) (e' := [(36, .int .i64 i), (35, .pointer (some ⟨d, 0, none⟩)), (0, .pointer (some ⟨d, 0, none⟩)), (2, .int .i64 i), (3, .int .i64 x), (4, .int .i64 long), (10, .pointer (some ⟨bx1, 0, none⟩)), (12, .pointer (some ⟨d, 2 + i.toNat * 3, none⟩))]) (by intro u; kernel_rfl) ?_
   have hc := heldM d (s.tick t) i (by omega) (by omega)
   rw [show (s.tick t).held i.toNat = true from hh] at hc
   refine SOps.o (Op.callS 37 15 #[.pointer (some ⟨d, 0, none⟩), .int .i64 i] (.bool true) [0] (B := [DeskC d (s.tick t)]) (D := [Cells bx1 27 [.int .i64 0, .int .i64 0, .int .i64 0]]) (by intro u; kernel_rfl) (hc) (by first | exact .inr rfl | exact .inl rfl) (by kernel_rfl) ?_)
   refine SOps.pures 5 (i' := 8) (m' := 5) (e' := [(42, .pointer (some ⟨d, 2 + i.toNat * 3 + 1, none⟩)), (41, .pointer (some ⟨d, 2 + i.toNat * 3, none⟩)), (40, .pointer (some ⟨d, 2 + i.toNat * 3, none⟩)), (39, .bool false), (38, .bool false), (37, .bool true), (36, .int .i64 i), (35, .pointer (some ⟨d, 0, none⟩)), (0, .pointer (some ⟨d, 0, none⟩)), (2, .int .i64 i), (3, .int .i64 x), (4, .int .i64 long), (10, .pointer (some ⟨bx1, 0, none⟩)), (12, .pointer (some ⟨d, 2 + i.toNat * 3, none⟩))]) (by intro u; kernel_rfl) ?_
   refine SOps.v (Val.ld1 0 43 3 d (2 + i.toNat * 3 + 1) (.int .i64 (((s.tick t).th i.toNat).tok)) rfl (by intro u; kernel_rfl) (by kernel_rfl) (Rd.tok (k := i.toNat) (by omega))) ?_
   refine SOps.pures 4 (i' := 13) (m' := 0) (e' := [(34, .bool ((((s.tick t).th i.toNat).tok) != x)), (46, .bool ((((s.tick t).th i.toNat).tok) != x)), (45, .bool ((((s.tick t).th i.toNat).tok) != x)), (44, .int .i64 x), (43, .int .i64 (((s.tick t).th i.toNat).tok)), (42, .pointer (some ⟨d, 2 + i.toNat * 3 + 1, none⟩)), (41, .pointer (some ⟨d, 2 + i.toNat * 3, none⟩)), (40, .pointer (some ⟨d, 2 + i.toNat * 3, none⟩)), (39, .bool false), (38, .bool false), (37, .bool true), (36, .int .i64 i), (35, .pointer (some ⟨d, 0, none⟩)), (0, .pointer (some ⟨d, 0, none⟩)), (2, .int .i64 i), (3, .int .i64 x), (4, .int .i64 long), (10, .pointer (some ⟨bx1, 0, none⟩)), (12, .pointer (some ⟨d, 2 + i.toNat * 3, none⟩))]) (by intro u; kernel_rfl) ?_
   refine SOps.nil (.inl rfl) ?_
   refine At.pick [0, 4, 10, 12, 34] (e' := [(0, .pointer (some ⟨d, 0, none⟩)), (4, .int .i64 long), (10, .pointer (some ⟨bx1, 0, none⟩)), (12, .pointer (some ⟨d, 2 + i.toNat * 3, none⟩)), (34, .bool ((((s.tick t).th i.toNat).tok) != x))]) (by kernel_rfl) ?_
   refine At.split (fun zq => [(0, .pointer (some ⟨d, 0, none⟩)), (4, .int .i64 long), (10, .pointer (some ⟨bx1, 0, none⟩)), (12, .pointer (some ⟨d, 2 + i.toNat * 3, none⟩)), (34, .bool zq)]) (((((s.tick t).th i.toNat).tok) != x)) (fun hx4 => ?_) (fun hx4 => ?_)
   ·have hx4 : ((s.tick t).th i.toNat).tok ≠ x := by simpa using hx4
    refine At.cond 300 true (c := .tmp 34) (k1 := pt10_12) (k2 := pt10_13) (by kernel_rfl) (by intro u; kernel_rfl) (fun _ => ?_) (fun h => by cases h)
    refine At.pick [10] (e' := [(10, .pointer (some ⟨bx1, 0, none⟩))]) (by kernel_rfl) ?_
    refine At.region (ops := opt10_12) (m := 3) (k' := kt10_10) (by kernel_rfl) 300 (k'' := pt10_14) (by kernel_rfl) ?_
    refine SOps.pures 1 (i' := 1) (m' := 2) (e' := [(47, .agg #[.int .i64 0, .int .i64 0, .int .i64 0]), (10, .pointer (some ⟨bx1, 0, none⟩))]) (by intro u; kernel_rfl) ?_
    refine SOps.o (Op.st 1 27 bx1 0 (.agg #[.int .i64 0, .int .i64 0, .int .i64 0]) [.int .i64 0, .int .i64 0, .int .i64 0] 3 (B' := Cells bx1 27 [.int .i64 0, .int .i64 0, .int .i64 0]) (A' := [DeskC d (s.tick t), Cells bx1 27 [.int .i64 0, .int .i64 0, .int .i64 0]]) rfl (by intro u; kernel_rfl) rfl (by kernel_rfl) rfl rfl (Wr.cells rfl rfl) rfl ?_)
    refine SOps.pures 1 (i' := 3) (m' := 0) (e' := [(11, .int .i64 7), (47, .agg #[.int .i64 0, .int .i64 0, .int .i64 0]), (10, .pointer (some ⟨bx1, 0, none⟩))]) (by intro u; kernel_rfl) ?_
    refine SOps.nil (.inl rfl) ?_
    refine At.pick [10, 11] (e' := [(10, .pointer (some ⟨bx1, 0, none⟩)), (11, .int .i64 7)]) (by kernel_rfl) ?_
    refine At.retCT 1 (fn := Try.f10) (v := .tuple #[.agg #[.int .i64 0, .int .i64 0, .int .i64 0], .int .i64 7]) (a := 10) (ty := 27) (b := bx1) (o := 0) (n := 3) (t := 11) (u := .int .i64 7) (vs := [.int .i64 0, .int .i64 0, .int .i64 0]) (by kernel_rfl) Try.func10 (by kernel_rfl) (by kernel_rfl) (by kernel_rfl) rfl (by kernel_rfl) (by kernel_rfl) rfl ⟨(Rd.cells rfl), (Rd.cells rfl), (Rd.cells rfl), trivial⟩ rfl (fun F w ho => ?_)
    exact shutV (rfl) [0] rfl ho
   ·have hx4 : ((s.tick t).th i.toNat).tok = x := by simpa using hx4
    exact absurd hx4 (by omega)
theorem renewOk (d : Nat) (s : De) (t i x long : Int) (hl : 1 ≤ long) (hm : long ≤ 1099511627776) (h0 : 0 ≤ i) (h1 : i < 256) (hh : (s.tick t).held i.toNat = true) (hx : ((s.tick t).th i.toNat).tok = x) : Ctr Try.prog 10 #[.pointer (some ⟨d, 0, none⟩), .int .i64 t, .int .i64 i, .int .i64 x, .int .i64 long] [DeskC d s] (fun v' => star (fact (v' = .tuple #[.agg #[.int .i64 ((s.tick t).th i.toNat).who, .int .i64 ((s.tick t).th i.toNat).tok, .int .i64 (max ((s.tick t).th i.toNat).fin (addI (s.tick t).now long))], .int .i64 0]) :: [DeskC d ((s.tick t).put i.toNat ⟨((s.tick t).th i.toNat).who, ((s.tick t).th i.toNat).tok, (max ((s.tick t).th i.toNat).fin (addI (s.tick t).now long)), ((s.tick t).th i.toNat).given⟩)])) false := by
 have hi2 : i.toNat < 256 := by omega
 refine spec_of_at (fn := Try.f10) (c := bd10) (args := [.pointer (some ⟨d, 0, none⟩), .int .i64 t, .int .i64 i, .int .i64 x, .int .i64 long]) (n := 65) (e := [(0, .pointer (some ⟨d, 0, none⟩)), (1, .int .i64 t), (2, .int .i64 i), (3, .int .i64 x), (4, .int .i64 long)]) (k := pt10_0) Try.func10 (by kernel_rfl) (by kernel_rfl) (by kernel_rfl) (by kernel_rfl) 300 (by kernel_rfl) ?_
 refine At.region (ops := opt10_0) (m := 2) (k' := kt10_0) (by kernel_rfl) 300 (k'' := pt10_1) (by kernel_rfl) ?_
 refine SOps.o (Op.new 10 27 [.int .i64 0, .int .i64 0, .int .i64 0] (fun b => .pointer (some ⟨b, 0, none⟩)) (by intro u b; kernel_rfl) ?_)
 intro bx1
 refine SOps.pures 1 (i' := 2) (m' := 0) (e' := [(11, .int .i64 0), (10, .pointer (some ⟨bx1, 0, none⟩)), (0, .pointer (some ⟨d, 0, none⟩)), (1, .int .i64 t), (2, .int .i64 i), (3, .int .i64 x), (4, .int .i64 long)]) (by intro u; kernel_rfl) ?_
 refine SOps.nil (.inl rfl) ?_
 refine At.pick [0, 1, 2, 3, 4, 10] (e' := [(0, .pointer (some ⟨d, 0, none⟩)), (1, .int .i64 t), (2, .int .i64 i), (3, .int .i64 x), (4, .int .i64 long), (10, .pointer (some ⟨bx1, 0, none⟩))]) (by kernel_rfl) ?_
 refine At.region (ops := opt10_1) (m := 10) (k' := kt10_2) (by kernel_rfl) 300 (k'' := pt10_2) (by kernel_rfl) ?_
 refine SOps.pures 6 (i' := 6) (m' := 4) (e' := [(18, .bool (decide (long < 1))), (17, .bool (decide (long < 1))), (16, .int .i64 long), (15, .bool true), (14, .bool true), (13, .pointer (some ⟨d, 0, none⟩)), (0, .pointer (some ⟨d, 0, none⟩)), (1, .int .i64 t), (2, .int .i64 i), (3, .int .i64 x), (4, .int .i64 long), (10, .pointer (some ⟨bx1, 0, none⟩))]) (by intro u; kernel_rfl) ?_
 refine SOps.split (fun zq => [(18, .bool zq), (17, .bool zq), (16, .int .i64 long), (15, .bool true), (14, .bool true), (13, .pointer (some ⟨d, 0, none⟩)), (0, .pointer (some ⟨d, 0, none⟩)), (1, .int .i64 t), (2, .int .i64 i), (3, .int .i64 x), (4, .int .i64 long), (10, .pointer (some ⟨bx1, 0, none⟩))]) (decide (long < 1)) (fun hx2 => ?_) (fun hx2 => ?_)
 ·have hx2 : long < 1 := by simpa using hx2
  exact absurd hx2 (by omega)
 ·have hx2 : long ≥ 1 := by simpa using hx2
  refine SOps.pures 4 (i' := 10) (m' := 0) (e' := [(22, .bool (decide (long > 1099511627776))), (21, .bool (decide (long > 1099511627776))), (20, .bool (decide (long > 1099511627776))), (19, .int .i64 long), (18, .bool false), (17, .bool false), (16, .int .i64 long), (15, .bool true), (14, .bool true), (13, .pointer (some ⟨d, 0, none⟩)), (0, .pointer (some ⟨d, 0, none⟩)), (1, .int .i64 t), (2, .int .i64 i), (3, .int .i64 x), (4, .int .i64 long), (10, .pointer (some ⟨bx1, 0, none⟩))]) (by intro u; kernel_rfl) ?_
  refine SOps.nil (.inl rfl) ?_
  refine At.pick [0, 1, 2, 3, 4, 10, 22] (e' := [(0, .pointer (some ⟨d, 0, none⟩)), (1, .int .i64 t), (2, .int .i64 i), (3, .int .i64 x), (4, .int .i64 long), (10, .pointer (some ⟨bx1, 0, none⟩)), (22, .bool (decide (long > 1099511627776)))]) (by kernel_rfl) ?_
  refine At.split (fun zq => [(0, .pointer (some ⟨d, 0, none⟩)), (1, .int .i64 t), (2, .int .i64 i), (3, .int .i64 x), (4, .int .i64 long), (10, .pointer (some ⟨bx1, 0, none⟩)), (22, .bool zq)]) (decide (long > 1099511627776)) (fun hx3 => ?_) (fun hx3 => ?_)
  ·have hx3 : long > 1099511627776 := by simpa using hx3
   exact absurd hx3 (by omega)
  ·have hx3 : long ≤ 1099511627776 := by simpa using hx3
   refine At.cond 300 false (c := .tmp 22) (k1 := pt10_3) (k2 := pt10_4) (by kernel_rfl) (by intro u; kernel_rfl) (fun h => by cases h) (fun _ => ?_)
   refine At.pick [0, 1, 2, 3, 4, 10] (e' := [(0, .pointer (some ⟨d, 0, none⟩)), (1, .int .i64 t), (2, .int .i64 i), (3, .int .i64 x), (4, .int .i64 long), (10, .pointer (some ⟨bx1, 0, none⟩))]) (by kernel_rfl) ?_
   refine At.region (ops := opt10_4) (m := 5) (k' := kt10_4) (by kernel_rfl) 300 (k'' := pt10_6) (by kernel_rfl) ?_
   refine SOps.pures 3 (i' := 3) (m' := 2) (e' := [(26, .int .i64 i), (25, .int .i64 t), (24, .pointer (some ⟨d, 0, none⟩)), (0, .pointer (some ⟨d, 0, none⟩)), (1, .int .i64 t), (2, .int .i64 i), (3, .int .i64 x), (4, .int .i64 long), (10, .pointer (some ⟨bx1, 0, none⟩))]) (by intro u; kernel_rfl) ?_
   refine SOps.o (Op.callS 27 14 #[.pointer (some ⟨d, 0, none⟩), .int .i64 t, .int .i64 i] (.pointer (some ⟨d, 2 + i.toNat * 3, none⟩)) [1] (B := [DeskC d s]) (D := [Cells bx1 27 [.int .i64 0, .int .i64 0, .int .i64 0]]) (by intro u; kernel_rfl) (atM d s t i (by omega) (by omega)) (by first | exact .inr rfl | exact .inl rfl) (by kernel_rfl) ?_)
   refine SOps.pures 1 (i' := 5) (m' := 0) (e' := [(12, .pointer (some ⟨d, 2 + i.toNat * 3, none⟩)), (27, .pointer (some ⟨d, 2 + i.toNat * 3, none⟩)), (26, .int .i64 i), (25, .int .i64 t), (24, .pointer (some ⟨d, 0, none⟩)), (0, .pointer (some ⟨d, 0, none⟩)), (1, .int .i64 t), (2, .int .i64 i), (3, .int .i64 x), (4, .int .i64 long), (10, .pointer (some ⟨bx1, 0, none⟩))]) (by intro u; kernel_rfl) ?_
   refine SOps.nil (.inl rfl) ?_
   refine At.pick [0, 2, 3, 4, 10, 12] (e' := [(0, .pointer (some ⟨d, 0, none⟩)), (2, .int .i64 i), (3, .int .i64 x), (4, .int .i64 long), (10, .pointer (some ⟨bx1, 0, none⟩)), (12, .pointer (some ⟨d, 2 + i.toNat * 3, none⟩))]) (by kernel_rfl) ?_
   refine At.region (ops := opt10_6) (m := 3) (k' := kt10_7) (by kernel_rfl) 300 (k'' := pt10_7) (by kernel_rfl) ?_
   refine SOps.pures 3 (i' := 3) (m' := 0) (e' := [(28, .bool false), (30, .bool false), (29, .pointer (some ⟨d, 2 + i.toNat * 3, none⟩)), (0, .pointer (some ⟨d, 0, none⟩)), (2, .int .i64 i), (3, .int .i64 x), (4, .int .i64 long), (10, .pointer (some ⟨bx1, 0, none⟩)), (12, .pointer (some ⟨d, 2 + i.toNat * 3, none⟩))]) (by intro u; kernel_rfl) ?_
   refine SOps.nil (.inl rfl) ?_
   refine At.pick [0, 2, 3, 4, 10, 12, 28] (e' := [(0, .pointer (some ⟨d, 0, none⟩)), (2, .int .i64 i), (3, .int .i64 x), (4, .int .i64 long), (10, .pointer (some ⟨bx1, 0, none⟩)), (12, .pointer (some ⟨d, 2 + i.toNat * 3, none⟩)), (28, .bool false)]) (by kernel_rfl) ?_
   refine At.cond 300 false (c := .tmp 28) (k1 := pt10_8) (k2 := pt10_9) (by kernel_rfl) (by intro u; kernel_rfl) (fun h => by cases h) (fun _ => ?_)
   refine At.pick [0, 2, 3, 4, 10, 12] (e' := [(0, .pointer (some ⟨d, 0, none⟩)), (2, .int .i64 i), (3, .int .i64 x), (4, .int .i64 long), (10, .pointer (some ⟨bx1, 0, none⟩)), (12, .pointer (some ⟨d, 2 + i.toNat * 3, none⟩))]) (by kernel_rfl) ?_
   refine At.region (ops := opt10_9) (m := 13) (k' := kt10_9) (by kernel_rfl) 300 (k'' := pt10_11) (by kernel_rfl) ?_
   refine SOps.pures 2 (i' := 2) (m' := 11) (e' := [(36, .int .i64 i), (35, .pointer (some ⟨d, 0, none⟩)), (0, .pointer (some ⟨d, 0, none⟩)), (2, .int .i64 i), (3, .int .i64 x), (4, .int .i64 long), (10, .pointer (some ⟨bx1, 0, none⟩)), (12, .pointer (some ⟨d, 2 + i.toNat * 3, none⟩))]) (by intro u; kernel_rfl) ?_
   have hc := heldM d (s.tick t) i (by omega) (by omega)
   rw [show (s.tick t).held i.toNat = true from hh] at hc
   refine SOps.o (Op.callS 37 15 #[.pointer (some ⟨d, 0, none⟩), .int .i64 i] (.bool true) [0] (B := [DeskC d (s.tick t)]) (D := [Cells bx1 27 [.int .i64 0, .int .i64 0, .int .i64 0]]) (by intro u; kernel_rfl) (hc) (by first | exact .inr rfl | exact .inl rfl) (by kernel_rfl) ?_)
   refine SOps.pures 5 (i' := 8) (m' := 5) (e' := [(42, .pointer (some ⟨d, 2 + i.toNat * 3 + 1, none⟩)), (41, .pointer (some ⟨d, 2 + i.toNat * 3, none⟩)), (40, .pointer (some ⟨d, 2 + i.toNat * 3, none⟩)), (39, .bool false), (38, .bool false), (37, .bool true), (36, .int .i64 i), (35, .pointer (some ⟨d, 0, none⟩)), (0, .pointer (some ⟨d, 0, none⟩)), (2, .int .i64 i), (3, .int .i64 x), (4, .int .i64 long), (10, .pointer (some ⟨bx1, 0, none⟩)), (12, .pointer (some ⟨d, 2 + i.toNat * 3, none⟩))]) (by intro u; kernel_rfl) ?_
   refine SOps.v (Val.ld1 0 43 3 d (2 + i.toNat * 3 + 1) (.int .i64 (((s.tick t).th i.toNat).tok)) rfl (by intro u; kernel_rfl) (by kernel_rfl) (Rd.tok (k := i.toNat) (by omega))) ?_
   refine SOps.pures 4 (i' := 13) (m' := 0) (e' := [(34, .bool ((((s.tick t).th i.toNat).tok) != x)), (46, .bool ((((s.tick t).th i.toNat).tok) != x)), (45, .bool ((((s.tick t).th i.toNat).tok) != x)), (44, .int .i64 x), (43, .int .i64 (((s.tick t).th i.toNat).tok)), (42, .pointer (some ⟨d, 2 + i.toNat * 3 + 1, none⟩)), (41, .pointer (some ⟨d, 2 + i.toNat * 3, none⟩)), (40, .pointer (some ⟨d, 2 + i.toNat * 3, none⟩)), (39, .bool false), (38, .bool false), (37, .bool true), (36, .int .i64 i), (35, .pointer (some ⟨d, 0, none⟩)), (0, .pointer (some ⟨d, 0, none⟩)), (2, .int .i64 i), (3, .int .i64 x), (4, .int .i64 long), (10, .pointer (some ⟨bx1, 0, none⟩)), (12, .pointer (some ⟨d, 2 + i.toNat * 3, none⟩))]) (by intro u; kernel_rfl) ?_
   refine SOps.nil (.inl rfl) ?_
   refine At.pick [0, 4, 10, 12, 34] (e' := [(0, .pointer (some ⟨d, 0, none⟩)), (4, .int .i64 long), (10, .pointer (some ⟨bx1, 0, none⟩)), (12, .pointer (some ⟨d, 2 + i.toNat * 3, none⟩)), (34, .bool ((((s.tick t).th i.toNat).tok) != x))]) (by kernel_rfl) ?_
   refine At.split (fun zq => [(0, .pointer (some ⟨d, 0, none⟩)), (4, .int .i64 long), (10, .pointer (some ⟨bx1, 0, none⟩)), (12, .pointer (some ⟨d, 2 + i.toNat * 3, none⟩)), (34, .bool zq)]) (((((s.tick t).th i.toNat).tok) != x)) (fun hx4 => ?_) (fun hx4 => ?_)
   ·have hx4 : ((s.tick t).th i.toNat).tok ≠ x := by simpa using hx4
    exact absurd hx4 (by omega)
   ·have hx4 : ((s.tick t).th i.toNat).tok = x := by simpa using hx4
    refine At.cond 300 false (c := .tmp 34) (k1 := pt10_12) (k2 := pt10_13) (by kernel_rfl) (by intro u; kernel_rfl) (fun h => by cases h) (fun _ => ?_)
    refine At.pick [0, 4, 10, 12] (e' := [(0, .pointer (some ⟨d, 0, none⟩)), (4, .int .i64 long), (10, .pointer (some ⟨bx1, 0, none⟩)), (12, .pointer (some ⟨d, 2 + i.toNat * 3, none⟩))]) (by kernel_rfl) ?_
    refine At.game [0, 0] 14 (L := #[false, false, false, false, false, false, false, false, false, false, false, false, false, false, false]) (ops := opt10_13) (m := 15) (k' := kt10_11) (by kernel_rfl) 300 (k'' := pt10_15) (by kernel_rfl) (by kernel_rfl) rfl (H := [DeskC d (s.tick t), Cells bx1 27 [.int .i64 0, .int .i64 0, .int .i64 0]]) (E := []) rfl ?_
    refine GOps.pures [0, 1, 2, 3, 5, 6, 7, 9] (L' := #[true, true, true, true, false, true, true, true, false, true, false, false, false, false, false]) (m' := 7) (e' := [(57, .int .i64 long), (55, .pointer (some ⟨d, 1, none⟩)), (54, .pointer (some ⟨d, 0, none⟩)), (53, .pointer (some ⟨d, 0, none⟩)), (51, .pointer (some ⟨d, 2 + i.toNat * 3 + 2, none⟩)), (50, .pointer (some ⟨d, 2 + i.toNat * 3, none⟩)), (49, .pointer (some ⟨d, 2 + i.toNat * 3, none⟩)), (48, .pointer (some ⟨d, 2 + i.toNat * 3, none⟩)), (0, .pointer (some ⟨d, 0, none⟩)), (4, .int .i64 long), (10, .pointer (some ⟨bx1, 0, none⟩)), (12, .pointer (some ⟨d, 2 + i.toNat * 3, none⟩))]) (by kernel_rfl) (by intro u; kernel_rfl) ?_
    refine GOps.v 4 (Val.ld1 0 52 3 d (2 + i.toNat * 3 + 2) (.int .i64 (((s.tick t).th i.toNat).fin)) rfl (by intro u; kernel_rfl) (by kernel_rfl) (Rd.fin (k := i.toNat) (by omega))) (by kernel_rfl) (by kernel_rfl) (by kernel_rfl) (by kernel_rfl) (L' := #[true, true, true, true, true, true, true, true, false, true, false, false, false, false, false]) rfl ?_
    refine GOps.v 8 (Val.ld1 0 56 3 d 1 (.int .i64 ((s.tick t).now)) rfl (by intro u; kernel_rfl) (by kernel_rfl) Rd.now) (by kernel_rfl) (by kernel_rfl) (by kernel_rfl) (by kernel_rfl) (L' := #[true, true, true, true, true, true, true, true, true, true, false, false, false, false, false]) rfl ?_
    refine GOps.one 10 (by kernel_rfl) (GStep.o 10 (L' := #[true, true, true, true, true, true, true, true, true, true, true, false, false, false, false]) rfl (Op.callS 58 18 #[.int .i64 ((s.tick t).now), .int .i64 long] (.int .i64 (addI ((s.tick t).now) long)) [] (B := []) (D := []) (by intro u; kernel_rfl) (addF ((s.tick t).now) long) (by first | exact .inr rfl | exact .inl rfl) (by kernel_rfl) ?_))
    refine GOps.v 11 (Val.pe 59 (.int .i64 (if ((s.tick t).th i.toNat).fin < (addI ((s.tick t).now) long) then (addI ((s.tick t).now) long) else ((s.tick t).th i.toNat).fin)) (.int .i64 (max (((s.tick t).th i.toNat).fin) (addI ((s.tick t).now) long))) (by intro u; kernel_rfl) (int_max _ _ _)) (by kernel_rfl) (by kernel_rfl) (by kernel_rfl) (by kernel_rfl) (L' := #[true, true, true, true, true, true, true, true, true, true, true, true, false, false, false]) rfl ?_
    refine GOps.pures [12, 13] (L' := #[true, true, true, true, true, true, true, true, true, true, true, true, true, true, false]) (m' := 1) (e' := [(61, .pointer (some ⟨d, 2 + i.toNat * 3 + 2, none⟩)), (60, .pointer (some ⟨d, 2 + i.toNat * 3, none⟩)), (59, .int .i64 (max (((s.tick t).th i.toNat).fin) (addI ((s.tick t).now) long))), (58, .int .i64 (addI ((s.tick t).now) long)), (56, .int .i64 ((s.tick t).now)), (52, .int .i64 (((s.tick t).th i.toNat).fin)), (57, .int .i64 long), (55, .pointer (some ⟨d, 1, none⟩)), (54, .pointer (some ⟨d, 0, none⟩)), (53, .pointer (some ⟨d, 0, none⟩)), (51, .pointer (some ⟨d, 2 + i.toNat * 3 + 2, none⟩)), (50, .pointer (some ⟨d, 2 + i.toNat * 3, none⟩)), (49, .pointer (some ⟨d, 2 + i.toNat * 3, none⟩)), (48, .pointer (some ⟨d, 2 + i.toNat * 3, none⟩)), (0, .pointer (some ⟨d, 0, none⟩)), (4, .int .i64 long), (10, .pointer (some ⟨bx1, 0, none⟩)), (12, .pointer (some ⟨d, 2 + i.toNat * 3, none⟩))]) (by kernel_rfl) (by intro u; kernel_rfl) ?_
    refine GOps.one 14 (by kernel_rfl) (GStep.d (L' := #[true, true, true, true, true, true, true, true, true, true, true, true, true, true, true]) rfl rfl (Op.st 0 3 d (2 + i.toNat * 3 + 2) (.int .i64 (max (((s.tick t).th i.toNat).fin) (addI ((s.tick t).now) long))) [.int .i64 (max (((s.tick t).th i.toNat).fin) (addI ((s.tick t).now) long))] 1 (B' := DeskC d ((s.tick t).put i.toNat ⟨((s.tick t).th i.toNat).who, ((s.tick t).th i.toNat).tok, (max (((s.tick t).th i.toNat).fin) (addI ((s.tick t).now) long)), ((s.tick t).th i.toNat).given⟩)) (A' := [DeskC d ((s.tick t).put i.toNat ⟨((s.tick t).th i.toNat).who, ((s.tick t).th i.toNat).tok, (max (((s.tick t).th i.toNat).fin) (addI ((s.tick t).now) long)), ((s.tick t).th i.toNat).given⟩), Cells bx1 27 [.int .i64 0, .int .i64 0, .int .i64 0]]) rfl (by intro u; kernel_rfl) rfl (by kernel_rfl) rfl rfl (Wr.fin (k := i.toNat) (by omega) _) rfl ?_))
    refine GOps.nil (by kernel_rfl) ?_
    refine At.pick [10, 12] (e' := [(10, .pointer (some ⟨bx1, 0, none⟩)), (12, .pointer (some ⟨d, 2 + i.toNat * 3, none⟩))]) (by kernel_rfl) ?_
    refine At.region (ops := opt10_15) (m := 5) (k' := kt10_12) (by kernel_rfl) 300 (k'' := pt10_16) (by kernel_rfl) ?_
    refine SOps.pures 2 (i' := 2) (m' := 3) (e' := [(63, .pointer (some ⟨d, 2 + i.toNat * 3, none⟩)), (62, .pointer (some ⟨d, 2 + i.toNat * 3, none⟩)), (10, .pointer (some ⟨bx1, 0, none⟩)), (12, .pointer (some ⟨d, 2 + i.toNat * 3, none⟩))]) (by intro u; kernel_rfl) ?_
    refine SOps.v (Val.ldN 0 64 27 d (2 + i.toNat * 3) 3 [.int .i64 ((((s.tick t).put i.toNat ⟨((s.tick t).th i.toNat).who, ((s.tick t).th i.toNat).tok, (max (((s.tick t).th i.toNat).fin) (addI ((s.tick t).now) long)), ((s.tick t).th i.toNat).given⟩).th i.toNat).who), .int .i64 ((((s.tick t).put i.toNat ⟨((s.tick t).th i.toNat).who, ((s.tick t).th i.toNat).tok, (max (((s.tick t).th i.toNat).fin) (addI ((s.tick t).now) long)), ((s.tick t).th i.toNat).given⟩).th i.toNat).tok), .int .i64 ((((s.tick t).put i.toNat ⟨((s.tick t).th i.toNat).who, ((s.tick t).th i.toNat).tok, (max (((s.tick t).th i.toNat).fin) (addI ((s.tick t).now) long)), ((s.tick t).th i.toNat).given⟩).th i.toNat).fin)] rfl (by intro u; kernel_rfl) (by kernel_rfl) (by kernel_rfl) rfl ⟨(Rd.who (k := i.toNat) (by omega)), (Rd.tok (k := i.toNat) (by omega)), (Rd.fin (k := i.toNat) (by omega)), trivial⟩) ?_
    refine SOps.o (Op.st 1 27 bx1 0 (.agg #[.int .i64 ((((s.tick t).put i.toNat ⟨((s.tick t).th i.toNat).who, ((s.tick t).th i.toNat).tok, (max (((s.tick t).th i.toNat).fin) (addI ((s.tick t).now) long)), ((s.tick t).th i.toNat).given⟩).th i.toNat).who), .int .i64 ((((s.tick t).put i.toNat ⟨((s.tick t).th i.toNat).who, ((s.tick t).th i.toNat).tok, (max (((s.tick t).th i.toNat).fin) (addI ((s.tick t).now) long)), ((s.tick t).th i.toNat).given⟩).th i.toNat).tok), .int .i64 ((((s.tick t).put i.toNat ⟨((s.tick t).th i.toNat).who, ((s.tick t).th i.toNat).tok, (max (((s.tick t).th i.toNat).fin) (addI ((s.tick t).now) long)), ((s.tick t).th i.toNat).given⟩).th i.toNat).fin)]) [.int .i64 ((((s.tick t).put i.toNat ⟨((s.tick t).th i.toNat).who, ((s.tick t).th i.toNat).tok, (max (((s.tick t).th i.toNat).fin) (addI ((s.tick t).now) long)), ((s.tick t).th i.toNat).given⟩).th i.toNat).who), .int .i64 ((((s.tick t).put i.toNat ⟨((s.tick t).th i.toNat).who, ((s.tick t).th i.toNat).tok, (max (((s.tick t).th i.toNat).fin) (addI ((s.tick t).now) long)), ((s.tick t).th i.toNat).given⟩).th i.toNat).tok), .int .i64 ((((s.tick t).put i.toNat ⟨((s.tick t).th i.toNat).who, ((s.tick t).th i.toNat).tok, (max (((s.tick t).th i.toNat).fin) (addI ((s.tick t).now) long)), ((s.tick t).th i.toNat).given⟩).th i.toNat).fin)] 3 (B' := Cells bx1 27 [.int .i64 ((((s.tick t).put i.toNat ⟨((s.tick t).th i.toNat).who, ((s.tick t).th i.toNat).tok, (max (((s.tick t).th i.toNat).fin) (addI ((s.tick t).now) long)), ((s.tick t).th i.toNat).given⟩).th i.toNat).who), .int .i64 ((((s.tick t).put i.toNat ⟨((s.tick t).th i.toNat).who, ((s.tick t).th i.toNat).tok, (max (((s.tick t).th i.toNat).fin) (addI ((s.tick t).now) long)), ((s.tick t).th i.toNat).given⟩).th i.toNat).tok), .int .i64 ((((s.tick t).put i.toNat ⟨((s.tick t).th i.toNat).who, ((s.tick t).th i.toNat).tok, (max (((s.tick t).th i.toNat).fin) (addI ((s.tick t).now) long)), ((s.tick t).th i.toNat).given⟩).th i.toNat).fin)]) (A' := [DeskC d ((s.tick t).put i.toNat ⟨((s.tick t).th i.toNat).who, ((s.tick t).th i.toNat).tok, (max (((s.tick t).th i.toNat).fin) (addI ((s.tick t).now) long)), ((s.tick t).th i.toNat).given⟩), Cells bx1 27 [.int .i64 ((((s.tick t).put i.toNat ⟨((s.tick t).th i.toNat).who, ((s.tick t).th i.toNat).tok, (max (((s.tick t).th i.toNat).fin) (addI ((s.tick t).now) long)), ((s.tick t).th i.toNat).given⟩).th i.toNat).who), .int .i64 ((((s.tick t).put i.toNat ⟨((s.tick t).th i.toNat).who, ((s.tick t).th i.toNat).tok, (max (((s.tick t).th i.toNat).fin) (addI ((s.tick t).now) long)), ((s.tick t).th i.toNat).given⟩).th i.toNat).tok), .int .i64 ((((s.tick t).put i.toNat ⟨((s.tick t).th i.toNat).who, ((s.tick t).th i.toNat).tok, (max (((s.tick t).th i.toNat).fin) (addI ((s.tick t).now) long)), ((s.tick t).th i.toNat).given⟩).th i.toNat).fin)]]) rfl (by intro u; kernel_rfl) rfl (by kernel_rfl) rfl rfl (Wr.cells rfl rfl) rfl ?_)
    refine SOps.pures 1 (i' := 5) (m' := 0) (e' := [(11, .int .i64 0), (64, .agg #[.int .i64 ((((s.tick t).put i.toNat ⟨((s.tick t).th i.toNat).who, ((s.tick t).th i.toNat).tok, (max (((s.tick t).th i.toNat).fin) (addI ((s.tick t).now) long)), ((s.tick t).th i.toNat).given⟩).th i.toNat).who), .int .i64 ((((s.tick t).put i.toNat ⟨((s.tick t).th i.toNat).who, ((s.tick t).th i.toNat).tok, (max (((s.tick t).th i.toNat).fin) (addI ((s.tick t).now) long)), ((s.tick t).th i.toNat).given⟩).th i.toNat).tok), .int .i64 ((((s.tick t).put i.toNat ⟨((s.tick t).th i.toNat).who, ((s.tick t).th i.toNat).tok, (max (((s.tick t).th i.toNat).fin) (addI ((s.tick t).now) long)), ((s.tick t).th i.toNat).given⟩).th i.toNat).fin)]), (63, .pointer (some ⟨d, 2 + i.toNat * 3, none⟩)), (62, .pointer (some ⟨d, 2 + i.toNat * 3, none⟩)), (10, .pointer (some ⟨bx1, 0, none⟩)), (12, .pointer (some ⟨d, 2 + i.toNat * 3, none⟩))]) (by intro u; kernel_rfl) ?_
    refine SOps.nil (.inl rfl) ?_
    refine At.pick [10, 11] (e' := [(10, .pointer (some ⟨bx1, 0, none⟩)), (11, .int .i64 0)]) (by kernel_rfl) ?_
    refine At.retCT 1 (fn := Try.f10) (v := .tuple #[.agg #[.int .i64 ((((s.tick t).put i.toNat ⟨((s.tick t).th i.toNat).who, ((s.tick t).th i.toNat).tok, (max (((s.tick t).th i.toNat).fin) (addI ((s.tick t).now) long)), ((s.tick t).th i.toNat).given⟩).th i.toNat).who), .int .i64 ((((s.tick t).put i.toNat ⟨((s.tick t).th i.toNat).who, ((s.tick t).th i.toNat).tok, (max (((s.tick t).th i.toNat).fin) (addI ((s.tick t).now) long)), ((s.tick t).th i.toNat).given⟩).th i.toNat).tok), .int .i64 ((((s.tick t).put i.toNat ⟨((s.tick t).th i.toNat).who, ((s.tick t).th i.toNat).tok, (max (((s.tick t).th i.toNat).fin) (addI ((s.tick t).now) long)), ((s.tick t).th i.toNat).given⟩).th i.toNat).fin)], .int .i64 0]) (a := 10) (ty := 27) (b := bx1) (o := 0) (n := 3) (t := 11) (u := .int .i64 0) (vs := [.int .i64 ((((s.tick t).put i.toNat ⟨((s.tick t).th i.toNat).who, ((s.tick t).th i.toNat).tok, (max (((s.tick t).th i.toNat).fin) (addI ((s.tick t).now) long)), ((s.tick t).th i.toNat).given⟩).th i.toNat).who), .int .i64 ((((s.tick t).put i.toNat ⟨((s.tick t).th i.toNat).who, ((s.tick t).th i.toNat).tok, (max (((s.tick t).th i.toNat).fin) (addI ((s.tick t).now) long)), ((s.tick t).th i.toNat).given⟩).th i.toNat).tok), .int .i64 ((((s.tick t).put i.toNat ⟨((s.tick t).th i.toNat).who, ((s.tick t).th i.toNat).tok, (max (((s.tick t).th i.toNat).fin) (addI ((s.tick t).now) long)), ((s.tick t).th i.toNat).given⟩).th i.toNat).fin)]) (by kernel_rfl) Try.func10 (by kernel_rfl) (by kernel_rfl) (by kernel_rfl) rfl (by kernel_rfl) (by kernel_rfl) rfl ⟨(Rd.cells rfl), (Rd.cells rfl), (Rd.cells rfl), trivial⟩ rfl (fun F w ho => ?_)
    have eS : ((s.tick t).put i.toNat ⟨((s.tick t).th i.toNat).who, ((s.tick t).th i.toNat).tok, (max (((s.tick t).th i.toNat).fin) (addI ((s.tick t).now) long)), ((s.tick t).th i.toNat).given⟩) = ((s.tick t).put i.toNat ⟨((s.tick t).th i.toNat).who, ((s.tick t).th i.toNat).tok, (max ((s.tick t).th i.toNat).fin (addI (s.tick t).now long)), ((s.tick t).th i.toNat).given⟩) := by simp [De.tick, put_put, put_at]
    rw [eS] at ho
    exact shutV (by simp [De.tick, put_put, put_at]) [0] rfl ho
noncomputable def bd11 : Code := (Try.f11.body).getD .skip
noncomputable def kt11_0 : List Item := .code (pick [1] bd11) :: []
noncomputable def pt11_0 : List Item := .code (pick [0] bd11) :: kt11_0
noncomputable def opt11_0 : Array Oper := opsOf (pick [0] bd11)
noncomputable def kt11_1 : List Item := .code (pick [1, 1] bd11) :: []
noncomputable def pt11_1 : List Item := .code (pick [1, 0] bd11) :: kt11_1
noncomputable def opt11_1 : Array Oper := opsOf (pick [1, 0] bd11)
noncomputable def kt11_2 : List Item := .code (pick [1, 1, 1] bd11) :: []
noncomputable def kt11_3 : List Item := .inBlock 0 :: kt11_2
noncomputable def kt11_4 : List Item := .code (pick [1, 1, 0, 0, 1] bd11) :: kt11_3
noncomputable def pt11_2 : List Item := .code (pick [1, 1, 0, 0, 0] bd11) :: kt11_4
noncomputable def opt11_2 : Array Oper := opsOf (pick [1, 1, 0, 0, 0] bd11)
noncomputable def pt11_3 : List Item := .code (pick [1, 1, 0, 0, 1] bd11) :: kt11_3
noncomputable def kt11_5 : List Item := .code (pick [1, 1, 0, 0, 1, 0, 1] bd11) :: kt11_3
noncomputable def pt11_4 : List Item := .code (pick [1, 1, 0, 0, 1, 0, 0] bd11) :: kt11_5
noncomputable def opt11_4 : Array Oper := opsOf (pick [1, 1, 0, 0, 1, 0, 0] bd11)
noncomputable def kt11_6 : List Item := .code (pick [1, 1, 0, 0, 1, 1, 1] bd11) :: kt11_3
noncomputable def pt11_5 : List Item := .code (pick [1, 1, 0, 0, 1, 1, 0] bd11) :: kt11_6
noncomputable def opt11_5 : Array Oper := opsOf (pick [1, 1, 0, 0, 1, 1, 0] bd11)
noncomputable def pt11_6 : List Item := .code (pick [1, 1, 0, 0, 1, 0, 1] bd11) :: kt11_3
noncomputable def pt11_7 : List Item := .code (pick [1, 1, 0, 0, 1, 1, 1] bd11) :: kt11_3
noncomputable def kt11_7 : List Item := .code (pick [1, 1, 0, 0, 1, 1, 1, 0, 1] bd11) :: kt11_3
noncomputable def pt11_8 : List Item := .code (pick [1, 1, 0, 0, 1, 1, 1, 0, 0] bd11) :: kt11_7
noncomputable def opt11_8 : Array Oper := opsOf (pick [1, 1, 0, 0, 1, 1, 1, 0, 0] bd11)
noncomputable def kt11_8 : List Item := .code (pick [1, 1, 1, 1] bd11) :: []
noncomputable def pt11_9 : List Item := .code (pick [1, 1, 1, 0] bd11) :: kt11_8
noncomputable def opt11_9 : Array Oper := opsOf (pick [1, 1, 1, 0] bd11)
noncomputable def pt11_10 : List Item := .code (pick [1, 1, 0, 0, 1, 1, 1, 0, 1] bd11) :: kt11_3
noncomputable def kt11_9 : List Item := .code (pick [1, 1, 1, 1, 1] bd11) :: []
noncomputable def pt11_11 : List Item := .code (pick [1, 1, 1, 1, 0] bd11) :: kt11_9
noncomputable def opt11_11 : Array Oper := opsOf (pick [1, 1, 1, 1, 0] bd11)
noncomputable def pt11_12 : List Item := .code (pick [1, 1, 1, 1, 1] bd11) :: []
theorem giveOut1 (d : Nat) (s : De) (t i x : Int) (hi : i < 0) : Ctr Try.prog 11 #[.pointer (some ⟨d, 0, none⟩), .int .i64 t, .int .i64 i, .int .i64 x] [DeskC d s] (fun v' => star (fact (v' = .int .i64 2) :: [DeskC d s])) false := by
 refine spec_of_at (fn := Try.f11) (c := bd11) (args := [.pointer (some ⟨d, 0, none⟩), .int .i64 t, .int .i64 i, .int .i64 x]) (n := 37) (e := [(0, .pointer (some ⟨d, 0, none⟩)), (1, .int .i64 t), (2, .int .i64 i), (3, .int .i64 x)]) (k := pt11_0) Try.func11 (by kernel_rfl) (by kernel_rfl) (by kernel_rfl) (by kernel_rfl) 300 (by kernel_rfl) ?_
 refine At.region (ops := opt11_0) (m := 1) (k' := kt11_0) (by kernel_rfl) 300 (k'' := pt11_1) (by kernel_rfl) ?_
 refine SOps.pures 1 (i' := 1) (m' := 0) (e' := [(8, .int .i64 0), (0, .pointer (some ⟨d, 0, none⟩)), (1, .int .i64 t), (2, .int .i64 i), (3, .int .i64 x)]) (by intro u; kernel_rfl) ?_
 refine SOps.nil (.inl rfl) ?_
 refine At.pick [0, 1, 2, 3] (e' := [(0, .pointer (some ⟨d, 0, none⟩)), (1, .int .i64 t), (2, .int .i64 i), (3, .int .i64 x)]) (by kernel_rfl) ?_
 refine At.region (ops := opt11_1) (m := 5) (k' := kt11_1) (by kernel_rfl) 300 (k'' := pt11_2) (by kernel_rfl) ?_
 refine SOps.pures 3 (i' := 3) (m' := 2) (e' := [(12, .int .i64 i), (11, .int .i64 t), (10, .pointer (some ⟨d, 0, none⟩)), (0, .pointer (some ⟨d, 0, none⟩)), (1, .int .i64 t), (2, .int .i64 i), (3, .int .i64 x)]) (by intro u; kernel_rfl) ?_
 refine SOps.o (Op.callS 13 14 #[.pointer (some ⟨d, 0, none⟩), .int .i64 t, .int .i64 i] (.pointer none) [0] (B := [DeskC d s]) (D := []) (by intro u; kernel_rfl) (atB d s t i (by omega)) (by first | exact .inr rfl | exact .inl rfl) (by kernel_rfl) ?_)
 refine SOps.pures 1 (i' := 5) (m' := 0) (e' := [(9, .pointer none), (13, .pointer none), (12, .int .i64 i), (11, .int .i64 t), (10, .pointer (some ⟨d, 0, none⟩)), (0, .pointer (some ⟨d, 0, none⟩)), (1, .int .i64 t), (2, .int .i64 i), (3, .int .i64 x)]) (by intro u; kernel_rfl) ?_
 refine SOps.nil (.inl rfl) ?_
 refine At.pick [0, 2, 3, 9] (e' := [(0, .pointer (some ⟨d, 0, none⟩)), (2, .int .i64 i), (3, .int .i64 x), (9, .pointer none)]) (by kernel_rfl) ?_
 refine At.region (ops := opt11_2) (m := 3) (k' := kt11_4) (by kernel_rfl) 300 (k'' := pt11_3) (by kernel_rfl) ?_
 refine SOps.pures 3 (i' := 3) (m' := 0) (e' := [(14, .bool true), (16, .bool true), (15, .pointer none), (0, .pointer (some ⟨d, 0, none⟩)), (2, .int .i64 i), (3, .int .i64 x), (9, .pointer none)]) (by intro u; kernel_rfl) ?_
 refine SOps.nil (.inl rfl) ?_
 refine At.pick [0, 2, 3, 9, 14] (e' := [(0, .pointer (some ⟨d, 0, none⟩)), (2, .int .i64 i), (3, .int .i64 x), (9, .pointer none), (14, .bool true)]) (by kernel_rfl) ?_
 refine At.cond 300 true (c := .tmp 14) (k1 := pt11_4) (k2 := pt11_5) (by kernel_rfl) (by intro u; kernel_rfl) (fun _ => ?_) (fun h => by cases h)
 refine At.pick [0] (e' := [(0, .pointer (some ⟨d, 0, none⟩))]) (by kernel_rfl) ?_
 refine At.region (ops := opt11_4) (m := 3) (k' := kt11_5) (by kernel_rfl) 300 (k'' := pt11_6) (by kernel_rfl) ?_
 refine SOps.pures 1 (i' := 1) (m' := 2) (e' := [(17, .pointer (some ⟨d, 0, none⟩)), (0, .pointer (some ⟨d, 0, none⟩))]) (by intro u; kernel_rfl) ?_
 refine SOps.o (Op.callS 18 16 #[.pointer (some ⟨d, 0, none⟩)] (.int .i64 2) [] (B := []) (D := [DeskC d s]) (by intro u; kernel_rfl) (missingM d) (by first | exact .inr rfl | exact .inl rfl) (by kernel_rfl) ?_)
 refine SOps.pures 1 (i' := 3) (m' := 0) (e' := [(8, .int .i64 2), (18, .int .i64 2), (17, .pointer (some ⟨d, 0, none⟩)), (0, .pointer (some ⟨d, 0, none⟩))]) (by intro u; kernel_rfl) ?_
 refine SOps.nil (.inl rfl) ?_
 refine At.pick [8] (e' := [(8, .int .i64 2)]) (by kernel_rfl) ?_
 refine At.ret1 (fn := Try.f11) (v := .int .i64 2) (t := 8) (by kernel_rfl) Try.func11 (by kernel_rfl) (by kernel_rfl) (fun F w ho => ?_)
 exact shutV (rfl) [0] rfl ho
theorem giveOut2 (d : Nat) (s : De) (t i x : Int) (hi : 256 ≤ i) : Ctr Try.prog 11 #[.pointer (some ⟨d, 0, none⟩), .int .i64 t, .int .i64 i, .int .i64 x] [DeskC d s] (fun v' => star (fact (v' = .int .i64 2) :: [DeskC d s])) false := by
 refine spec_of_at (fn := Try.f11) (c := bd11) (args := [.pointer (some ⟨d, 0, none⟩), .int .i64 t, .int .i64 i, .int .i64 x]) (n := 37) (e := [(0, .pointer (some ⟨d, 0, none⟩)), (1, .int .i64 t), (2, .int .i64 i), (3, .int .i64 x)]) (k := pt11_0) Try.func11 (by kernel_rfl) (by kernel_rfl) (by kernel_rfl) (by kernel_rfl) 300 (by kernel_rfl) ?_
 refine At.region (ops := opt11_0) (m := 1) (k' := kt11_0) (by kernel_rfl) 300 (k'' := pt11_1) (by kernel_rfl) ?_
 refine SOps.pures 1 (i' := 1) (m' := 0) (e' := [(8, .int .i64 0), (0, .pointer (some ⟨d, 0, none⟩)), (1, .int .i64 t), (2, .int .i64 i), (3, .int .i64 x)]) (by intro u; kernel_rfl) ?_
 refine SOps.nil (.inl rfl) ?_
 refine At.pick [0, 1, 2, 3] (e' := [(0, .pointer (some ⟨d, 0, none⟩)), (1, .int .i64 t), (2, .int .i64 i), (3, .int .i64 x)]) (by kernel_rfl) ?_
 refine At.region (ops := opt11_1) (m := 5) (k' := kt11_1) (by kernel_rfl) 300 (k'' := pt11_2) (by kernel_rfl) ?_
 refine SOps.pures 3 (i' := 3) (m' := 2) (e' := [(12, .int .i64 i), (11, .int .i64 t), (10, .pointer (some ⟨d, 0, none⟩)), (0, .pointer (some ⟨d, 0, none⟩)), (1, .int .i64 t), (2, .int .i64 i), (3, .int .i64 x)]) (by intro u; kernel_rfl) ?_
 refine SOps.o (Op.callS 13 14 #[.pointer (some ⟨d, 0, none⟩), .int .i64 t, .int .i64 i] (.pointer none) [0] (B := [DeskC d s]) (D := []) (by intro u; kernel_rfl) (atB d s t i (by omega)) (by first | exact .inr rfl | exact .inl rfl) (by kernel_rfl) ?_)
 refine SOps.pures 1 (i' := 5) (m' := 0) (e' := [(9, .pointer none), (13, .pointer none), (12, .int .i64 i), (11, .int .i64 t), (10, .pointer (some ⟨d, 0, none⟩)), (0, .pointer (some ⟨d, 0, none⟩)), (1, .int .i64 t), (2, .int .i64 i), (3, .int .i64 x)]) (by intro u; kernel_rfl) ?_
 refine SOps.nil (.inl rfl) ?_
 refine At.pick [0, 2, 3, 9] (e' := [(0, .pointer (some ⟨d, 0, none⟩)), (2, .int .i64 i), (3, .int .i64 x), (9, .pointer none)]) (by kernel_rfl) ?_
 refine At.region (ops := opt11_2) (m := 3) (k' := kt11_4) (by kernel_rfl) 300 (k'' := pt11_3) (by kernel_rfl) ?_
 refine SOps.pures 3 (i' := 3) (m' := 0) (e' := [(14, .bool true), (16, .bool true), (15, .pointer none), (0, .pointer (some ⟨d, 0, none⟩)), (2, .int .i64 i), (3, .int .i64 x), (9, .pointer none)]) (by intro u; kernel_rfl) ?_
 refine SOps.nil (.inl rfl) ?_
 refine At.pick [0, 2, 3, 9, 14] (e' := [(0, .pointer (some ⟨d, 0, none⟩)), (2, .int .i64 i), (3, .int .i64 x), (9, .pointer none), (14, .bool true)]) (by kernel_rfl) ?_
 refine At.cond 300 true (c := .tmp 14) (k1 := pt11_4) (k2 := pt11_5) (by kernel_rfl) (by intro u; kernel_rfl) (fun _ => ?_) (fun h => by cases h)
 refine At.pick [0] (e' := [(0, .pointer (some ⟨d, 0, none⟩))]) (by kernel_rfl) ?_
 refine At.region (ops := opt11_4) (m := 3) (k' := kt11_5) (by kernel_rfl) 300 (k'' := pt11_6) (by kernel_rfl) ?_
 refine SOps.pures 1 (i' := 1) (m' := 2) (e' := [(17, .pointer (some ⟨d, 0, none⟩)), (0, .pointer (some ⟨d, 0, none⟩))]) (by intro u; kernel_rfl) ?_
 refine SOps.o (Op.callS 18 16 #[.pointer (some ⟨d, 0, none⟩)] (.int .i64 2) [] (B := []) (D := [DeskC d s]) (by intro u; kernel_rfl) (missingM d) (by first | exact .inr rfl | exact .inl rfl) (by kernel_rfl) ?_)
 refine SOps.pures 1 (i' := 3) (m' := 0) (e' := [(8, .int .i64 2), (18, .int .i64 2), (17, .pointer (some ⟨d, 0, none⟩)), (0, .pointer (some ⟨d, 0, none⟩))]) (by intro u; kernel_rfl) ?_
 refine SOps.nil (.inl rfl) ?_
 refine At.pick [8] (e' := [(8, .int .i64 2)]) (by kernel_rfl) ?_
 refine At.ret1 (fn := Try.f11) (v := .int .i64 2) (t := 8) (by kernel_rfl) Try.func11 (by kernel_rfl) (by kernel_rfl) (fun F w ho => ?_)
 exact shutV (rfl) [0] rfl ho
theorem giveNo1 (d : Nat) (s : De) (t i x : Int) (h0 : 0 ≤ i) (h1 : i < 256) (hh : (s.tick t).held i.toNat = false) : Ctr Try.prog 11 #[.pointer (some ⟨d, 0, none⟩), .int .i64 t, .int .i64 i, .int .i64 x] [DeskC d s] (fun v' => star (fact (v' = .int .i64 7) :: [DeskC d (s.tick t)])) false := by
 have hi2 : i.toNat < 256 := by omega
 refine spec_of_at (fn := Try.f11) (c := bd11) (args := [.pointer (some ⟨d, 0, none⟩), .int .i64 t, .int .i64 i, .int .i64 x]) (n := 37) (e := [(0, .pointer (some ⟨d, 0, none⟩)), (1, .int .i64 t), (2, .int .i64 i), (3, .int .i64 x)]) (k := pt11_0) Try.func11 (by kernel_rfl) (by kernel_rfl) (by kernel_rfl) (by kernel_rfl) 300 (by kernel_rfl) ?_
 refine At.region (ops := opt11_0) (m := 1) (k' := kt11_0) (by kernel_rfl) 300 (k'' := pt11_1) (by kernel_rfl) ?_
 refine SOps.pures 1 (i' := 1) (m' := 0) (e' := [(8, .int .i64 0), (0, .pointer (some ⟨d, 0, none⟩)), (1, .int .i64 t), (2, .int .i64 i), (3, .int .i64 x)]) (by intro u; kernel_rfl) ?_
 refine SOps.nil (.inl rfl) ?_
 refine At.pick [0, 1, 2, 3] (e' := [(0, .pointer (some ⟨d, 0, none⟩)), (1, .int .i64 t), (2, .int .i64 i), (3, .int .i64 x)]) (by kernel_rfl) ?_
 refine At.region (ops := opt11_1) (m := 5) (k' := kt11_1) (by kernel_rfl) 300 (k'' := pt11_2) (by kernel_rfl) ?_
 refine SOps.pures 3 (i' := 3) (m' := 2) (e' := [(12, .int .i64 i), (11, .int .i64 t), (10, .pointer (some ⟨d, 0, none⟩)), (0, .pointer (some ⟨d, 0, none⟩)), (1, .int .i64 t), (2, .int .i64 i), (3, .int .i64 x)]) (by intro u; kernel_rfl) ?_
 refine SOps.o (Op.callS 13 14 #[.pointer (some ⟨d, 0, none⟩), .int .i64 t, .int .i64 i] (.pointer (some ⟨d, 2 + i.toNat * 3, none⟩)) [0] (B := [DeskC d s]) (D := []) (by intro u; kernel_rfl) (atM d s t i (by omega) (by omega)) (by first | exact .inr rfl | exact .inl rfl) (by kernel_rfl) ?_)
 refine SOps.pures 1 (i' := 5) (m' := 0) (e' := [(9, .pointer (some ⟨d, 2 + i.toNat * 3, none⟩)), (13, .pointer (some ⟨d, 2 + i.toNat * 3, none⟩)), (12, .int .i64 i), (11, .int .i64 t), (10, .pointer (some ⟨d, 0, none⟩)), (0, .pointer (some ⟨d, 0, none⟩)), (1, .int .i64 t), (2, .int .i64 i), (3, .int .i64 x)]) (by intro u; kernel_rfl) ?_
 refine SOps.nil (.inl rfl) ?_
 refine At.pick [0, 2, 3, 9] (e' := [(0, .pointer (some ⟨d, 0, none⟩)), (2, .int .i64 i), (3, .int .i64 x), (9, .pointer (some ⟨d, 2 + i.toNat * 3, none⟩))]) (by kernel_rfl) ?_
 refine At.region (ops := opt11_2) (m := 3) (k' := kt11_4) (by kernel_rfl) 300 (k'' := pt11_3) (by kernel_rfl) ?_
 refine SOps.pures 3 (i' := 3) (m' := 0) (e' := [(14, .bool false), (16, .bool false), (15, .pointer (some ⟨d, 2 + i.toNat * 3, none⟩)), (0, .pointer (some ⟨d, 0, none⟩)), (2, .int .i64 i), (3, .int .i64 x), (9, .pointer (some ⟨d, 2 + i.toNat * 3, none⟩))]) (by intro u; kernel_rfl) ?_
 refine SOps.nil (.inl rfl) ?_
 refine At.pick [0, 2, 3, 9, 14] (e' := [(0, .pointer (some ⟨d, 0, none⟩)), (2, .int .i64 i), (3, .int .i64 x), (9, .pointer (some ⟨d, 2 + i.toNat * 3, none⟩)), (14, .bool false)]) (by kernel_rfl) ?_
 refine At.cond 300 false (c := .tmp 14) (k1 := pt11_4) (k2 := pt11_5) (by kernel_rfl) (by intro u; kernel_rfl) (fun h => by cases h) (fun _ => ?_)
 refine At.pick [0, 2, 3, 9] (e' := [(0, .pointer (some ⟨d, 0, none⟩)), (2, .int .i64 i), (3, .int .i64 x), (9, .pointer (some ⟨d, 2 + i.toNat * 3, none⟩))]) (by kernel_rfl) ?_
 refine At.region (ops := opt11_5) (m := 13) (k' := kt11_6) (by kernel_rfl) 300 (k'' := pt11_7) (by kernel_rfl) ?_
 refine SOps.pures 2 (i' := 2) (m' := 11) (e' := [(21, .int .i64 i), (20, .pointer (some ⟨d, 0, none⟩)), (0, .pointer (some ⟨d, 0, none⟩)), (2, .int .i64 i), (3, .int .i64 x), (9, .pointer (some ⟨d, 2 + i.toNat * 3, none⟩))]) (by intro u; kernel_rfl) ?_
 have hc := heldM d (s.tick t) i (by omega) (by omega)
 rw [show (s.tick t).held i.toNat = false from hh] at hc
 refine SOps.o (Op.callS 22 15 #[.pointer (some ⟨d, 0, none⟩), .int .i64 i] (.bool false) [0] (B := [DeskC d (s.tick t)]) (D := []) (by intro u; kernel_rfl) (hc) (by first | exact .inr rfl | exact .inl rfl) (by kernel_rfl) ?_)
 refine SOps.pures 10 (i' := 13) (m' := 0) (e' := [(19, .bool true), (31, .bool true), (30, .tuple #[]), (29, .tuple #[]), (28, .tuple #[]), (27, .tuple #[]), (26, .tuple #[]), (25, .tuple #[]), (24, .bool true), (23, .bool true), (22, .bool false), (21, .int .i64 i), (20, .pointer (some ⟨d, 0, none⟩)), (0, .pointer (some ⟨d, 0, none⟩)), (2, .int .i64 i), (3, .int .i64 x), (9, .pointer (some ⟨d, 2 + i.toNat * 3, none⟩))]) (by intro u; kernel_rfl) ?_
 refine SOps.nil (.inl rfl) ?_
 refine At.pick [0, 2, 19] (e' := [(0, .pointer (some ⟨d, 0, none⟩)), (2, .int .i64 i), (19, .bool true)]) (by kernel_rfl) ?_
 refine At.cond 300 true (c := .tmp 19) (k1 := pt11_8) (k2 := pt11_9) (by kernel_rfl) (by intro u; kernel_rfl) (fun _ => ?_) (fun h => by cases h)
 refine At.pick [] (e' := []) (by kernel_rfl) ?_
 refine At.region (ops := opt11_8) (m := 1) (k' := kt11_7) (by kernel_rfl) 300 (k'' := pt11_10) (by kernel_rfl) ?_
 refine SOps.pures 1 (i' := 1) (m' := 0) (e' := [(8, .int .i64 7)]) (by intro u; kernel_rfl) ?_
 refine SOps.nil (.inl rfl) ?_
 refine At.ret1 (fn := Try.f11) (v := .int .i64 7) (t := 8) (by kernel_rfl) Try.func11 (by kernel_rfl) (by kernel_rfl) (fun F w ho => ?_)
 exact shutV (rfl) [0] rfl ho
theorem giveNo2 (d : Nat) (s : De) (t i x : Int) (h0 : 0 ≤ i) (h1 : i < 256) (hh : (s.tick t).held i.toNat = true) (hx : ((s.tick t).th i.toNat).tok ≠ x) : Ctr Try.prog 11 #[.pointer (some ⟨d, 0, none⟩), .int .i64 t, .int .i64 i, .int .i64 x] [DeskC d s] (fun v' => star (fact (v' = .int .i64 7) :: [DeskC d (s.tick t)])) false := by
 have hi2 : i.toNat < 256 := by omega
 refine spec_of_at (fn := Try.f11) (c := bd11) (args := [.pointer (some ⟨d, 0, none⟩), .int .i64 t, .int .i64 i, .int .i64 x]) (n := 37) (e := [(0, .pointer (some ⟨d, 0, none⟩)), (1, .int .i64 t), (2, .int .i64 i), (3, .int .i64 x)]) (k := pt11_0) Try.func11 (by kernel_rfl) (by kernel_rfl) (by kernel_rfl) (by kernel_rfl) 300 (by kernel_rfl) ?_
 refine At.region (ops := opt11_0) (m := 1) (k' := kt11_0) (by kernel_rfl) 300 (k'' := pt11_1) (by kernel_rfl) ?_
 refine SOps.pures 1 (i' := 1) (m' := 0) (e' := [(8, .int .i64 0), (0, .pointer (some ⟨d, 0, none⟩)), (1, .int .i64 t), (2, .int .i64 i), (3, .int .i64 x)]) (by intro u; kernel_rfl) ?_
 refine SOps.nil (.inl rfl) ?_
 refine At.pick [0, 1, 2, 3] (e' := [(0, .pointer (some ⟨d, 0, none⟩)), (1, .int .i64 t), (2, .int .i64 i), (3, .int .i64 x)]) (by kernel_rfl) ?_
 refine At.region (ops := opt11_1) (m := 5) (k' := kt11_1) (by kernel_rfl) 300 (k'' := pt11_2) (by kernel_rfl) ?_
 refine SOps.pures 3 (i' := 3) (m' := 2) (e' := [(12, .int .i64 i), (11, .int .i64 t), (10, .pointer (some ⟨d, 0, none⟩)), (0, .pointer (some ⟨d, 0, none⟩)), (1, .int .i64 t), (2, .int .i64 i), (3, .int .i64 x)]) (by intro u; kernel_rfl) ?_
 refine SOps.o (Op.callS 13 14 #[.pointer (some ⟨d, 0, none⟩), .int .i64 t, .int .i64 i] (.pointer (some ⟨d, 2 + i.toNat * 3, none⟩)) [0] (B := [DeskC d s]) (D := []) (by intro u; kernel_rfl) (atM d s t i (by omega) (by omega)) (by first | exact .inr rfl | exact .inl rfl) (by kernel_rfl) ?_)
 refine SOps.pures 1 (i' := 5) (m' := 0) (e' := [(9, .pointer (some ⟨d, 2 + i.toNat * 3, none⟩)), (13, .pointer (some ⟨d, 2 + i.toNat * 3, none⟩)), (12, .int .i64 i), (11, .int .i64 t), (10, .pointer (some ⟨d, 0, none⟩)), (0, .pointer (some ⟨d, 0, none⟩)), (1, .int .i64 t), (2, .int .i64 i), (3, .int .i64 x)]) (by intro u; kernel_rfl) ?_
 refine SOps.nil (.inl rfl) ?_
 refine At.pick [0, 2, 3, 9] (e' := [(0, .pointer (some ⟨d, 0, none⟩)), (2, .int .i64 i), (3, .int .i64 x), (9, .pointer (some ⟨d, 2 + i.toNat * 3, none⟩))]) (by kernel_rfl) ?_
 refine At.region (ops := opt11_2) (m := 3) (k' := kt11_4) (by kernel_rfl) 300 (k'' := pt11_3) (by kernel_rfl) ?_
 refine SOps.pures 3 (i' := 3) (m' := 0) (e' := [(14, .bool false), (16, .bool false), (15, .pointer (some ⟨d, 2 + i.toNat * 3, none⟩)), (0, .pointer (some ⟨d, 0, none⟩)), (2, .int .i64 i), (3, .int .i64 x), (9, .pointer (some ⟨d, 2 + i.toNat * 3, none⟩))]) (by intro u; kernel_rfl) ?_
 refine SOps.nil (.inl rfl) ?_
 refine At.pick [0, 2, 3, 9, 14] (e' := [(0, .pointer (some ⟨d, 0, none⟩)), (2, .int .i64 i), (3, .int .i64 x), (9, .pointer (some ⟨d, 2 + i.toNat * 3, none⟩)), (14, .bool false)]) (by kernel_rfl) ?_
 refine At.cond 300 false (c := .tmp 14) (k1 := pt11_4) (k2 := pt11_5) (by kernel_rfl) (by intro u; kernel_rfl) (fun h => by cases h) (fun _ => ?_)
 refine At.pick [0, 2, 3, 9] (e' := [(0, .pointer (some ⟨d, 0, none⟩)), (2, .int .i64 i), (3, .int .i64 x), (9, .pointer (some ⟨d, 2 + i.toNat * 3, none⟩))]) (by kernel_rfl) ?_
 refine At.region (ops := opt11_5) (m := 13) (k' := kt11_6) (by kernel_rfl) 300 (k'' := pt11_7) (by kernel_rfl) ?_
 refine SOps.pures 2 (i' := 2) (m' := 11) (e' := [(21, .int .i64 i), (20, .pointer (some ⟨d, 0, none⟩)), (0, .pointer (some ⟨d, 0, none⟩)), (2, .int .i64 i), (3, .int .i64 x), (9, .pointer (some ⟨d, 2 + i.toNat * 3, none⟩))]) (by intro u; kernel_rfl) ?_
 have hc := heldM d (s.tick t) i (by omega) (by omega)
 rw [show (s.tick t).held i.toNat = true from hh] at hc
 refine SOps.o (Op.callS 22 15 #[.pointer (some ⟨d, 0, none⟩), .int .i64 i] (.bool true) [0] (B := [DeskC d (s.tick t)]) (D := []) (by intro u; kernel_rfl) (hc) (by first | exact .inr rfl | exact .inl rfl) (by kernel_rfl) ?_)
 refine SOps.pures 5 (i' := 8) (m' := 5) (e' := [(27, .pointer (some ⟨d, 2 + i.toNat * 3 + 1, none⟩)), (26, .pointer (some ⟨d, 2 + i.toNat * 3, none⟩)), (25, .pointer (some ⟨d, 2 + i.toNat * 3, none⟩)), (24, .bool false), (23, .bool false), (22, .bool true), (21, .int .i64 i), (20, .pointer (some ⟨d, 0, none⟩)), (0, .pointer (some ⟨d, 0, none⟩)), (2, .int .i64 i), (3, .int .i64 x), (9, .pointer (some ⟨d, 2 + i.toNat * 3, none⟩))]) (by intro u; kernel_rfl) ?_
 refine SOps.v (Val.ld1 0 28 3 d (2 + i.toNat * 3 + 1) (.int .i64 (((s.tick t).th i.toNat).tok)) rfl (by intro u; kernel_rfl) (by kernel_rfl) (Rd.tok (k := i.toNat) (by omega))) ?_
 refine SOps.pures 4 (i' := 13) (m' := 0) (e' := [(19, .bool ((((s.tick t).th i.toNat).tok) != x)), (31, .bool ((((s.tick t).th i.toNat).tok) != x)), (30, .bool ((((s.tick t).th i.toNat).tok) != x)), (29, .int .i64 x), (28, .int .i64 (((s.tick t).th i.toNat).tok)), (27, .pointer (some ⟨d, 2 + i.toNat * 3 + 1, none⟩)), (26, .pointer (some ⟨d, 2 + i.toNat * 3, none⟩)), (25, .pointer (some ⟨d, 2 + i.toNat * 3, none⟩)), (24, .bool false), (23, .bool false), (22, .bool true), (21, .int .i64 i), (20, .pointer (some ⟨d, 0, none⟩)), (0, .pointer (some ⟨d, 0, none⟩)), (2, .int .i64 i), (3, .int .i64 x), (9, .pointer (some ⟨d, 2 + i.toNat * 3, none⟩))]) (by intro u; kernel_rfl) ?_
 refine SOps.nil (.inl rfl) ?_
 refine At.pick [0, 2, 19] (e' := [(0, .pointer (some ⟨d, 0, none⟩)), (2, .int .i64 i), (19, .bool ((((s.tick t).th i.toNat).tok) != x))]) (by kernel_rfl) ?_
 refine At.split (fun zq => [(0, .pointer (some ⟨d, 0, none⟩)), (2, .int .i64 i), (19, .bool zq)]) (((((s.tick t).th i.toNat).tok) != x)) (fun hx1 => ?_) (fun hx1 => ?_)
 ·have hx1 : ((s.tick t).th i.toNat).tok ≠ x := by simpa using hx1
  refine At.cond 300 true (c := .tmp 19) (k1 := pt11_8) (k2 := pt11_9) (by kernel_rfl) (by intro u; kernel_rfl) (fun _ => ?_) (fun h => by cases h)
  refine At.pick [] (e' := []) (by kernel_rfl) ?_
  refine At.region (ops := opt11_8) (m := 1) (k' := kt11_7) (by kernel_rfl) 300 (k'' := pt11_10) (by kernel_rfl) ?_
  refine SOps.pures 1 (i' := 1) (m' := 0) (e' := [(8, .int .i64 7)]) (by intro u; kernel_rfl) ?_
  refine SOps.nil (.inl rfl) ?_
  refine At.ret1 (fn := Try.f11) (v := .int .i64 7) (t := 8) (by kernel_rfl) Try.func11 (by kernel_rfl) (by kernel_rfl) (fun F w ho => ?_)
  exact shutV (rfl) [0] rfl ho
 ·have hx1 : ((s.tick t).th i.toNat).tok = x := by simpa using hx1
  exact absurd hx1 (by omega)
theorem giveOk (d : Nat) (s : De) (t i x : Int) (h0 : 0 ≤ i) (h1 : i < 256) (hh : (s.tick t).held i.toNat = true) (hx : ((s.tick t).th i.toNat).tok = x) : Ctr Try.prog 11 #[.pointer (some ⟨d, 0, none⟩), .int .i64 t, .int .i64 i, .int .i64 x] [DeskC d s] (fun v' => star (fact (v' = .int .i64 0) :: [DeskC d ((s.tick t).put i.toNat ⟨((s.tick t).th i.toNat).who, ((s.tick t).th i.toNat).tok, ((s.tick t).th i.toNat).fin, true⟩)])) false := by
 have hi2 : i.toNat < 256 := by omega
 refine spec_of_at (fn := Try.f11) (c := bd11) (args := [.pointer (some ⟨d, 0, none⟩), .int .i64 t, .int .i64 i, .int .i64 x]) (n := 37) (e := [(0, .pointer (some ⟨d, 0, none⟩)), (1, .int .i64 t), (2, .int .i64 i), (3, .int .i64 x)]) (k := pt11_0) Try.func11 (by kernel_rfl) (by kernel_rfl) (by kernel_rfl) (by kernel_rfl) 300 (by kernel_rfl) ?_
 refine At.region (ops := opt11_0) (m := 1) (k' := kt11_0) (by kernel_rfl) 300 (k'' := pt11_1) (by kernel_rfl) ?_
 refine SOps.pures 1 (i' := 1) (m' := 0) (e' := [(8, .int .i64 0), (0, .pointer (some ⟨d, 0, none⟩)), (1, .int .i64 t), (2, .int .i64 i), (3, .int .i64 x)]) (by intro u; kernel_rfl) ?_
 refine SOps.nil (.inl rfl) ?_
 refine At.pick [0, 1, 2, 3] (e' := [(0, .pointer (some ⟨d, 0, none⟩)), (1, .int .i64 t), (2, .int .i64 i), (3, .int .i64 x)]) (by kernel_rfl) ?_
 refine At.region (ops := opt11_1) (m := 5) (k' := kt11_1) (by kernel_rfl) 300 (k'' := pt11_2) (by kernel_rfl) ?_
 refine SOps.pures 3 (i' := 3) (m' := 2) (e' := [(12, .int .i64 i), (11, .int .i64 t), (10, .pointer (some ⟨d, 0, none⟩)), (0, .pointer (some ⟨d, 0, none⟩)), (1, .int .i64 t), (2, .int .i64 i), (3, .int .i64 x)]) (by intro u; kernel_rfl) ?_
 refine SOps.o (Op.callS 13 14 #[.pointer (some ⟨d, 0, none⟩), .int .i64 t, .int .i64 i] (.pointer (some ⟨d, 2 + i.toNat * 3, none⟩)) [0] (B := [DeskC d s]) (D := []) (by intro u; kernel_rfl) (atM d s t i (by omega) (by omega)) (by first | exact .inr rfl | exact .inl rfl) (by kernel_rfl) ?_)
 refine SOps.pures 1 (i' := 5) (m' := 0) (e' := [(9, .pointer (some ⟨d, 2 + i.toNat * 3, none⟩)), (13, .pointer (some ⟨d, 2 + i.toNat * 3, none⟩)), (12, .int .i64 i), (11, .int .i64 t), (10, .pointer (some ⟨d, 0, none⟩)), (0, .pointer (some ⟨d, 0, none⟩)), (1, .int .i64 t), (2, .int .i64 i), (3, .int .i64 x)]) (by intro u; kernel_rfl) ?_
 refine SOps.nil (.inl rfl) ?_
 refine At.pick [0, 2, 3, 9] (e' := [(0, .pointer (some ⟨d, 0, none⟩)), (2, .int .i64 i), (3, .int .i64 x), (9, .pointer (some ⟨d, 2 + i.toNat * 3, none⟩))]) (by kernel_rfl) ?_
 refine At.region (ops := opt11_2) (m := 3) (k' := kt11_4) (by kernel_rfl) 300 (k'' := pt11_3) (by kernel_rfl) ?_
 refine SOps.pures 3 (i' := 3) (m' := 0) (e' := [(14, .bool false), (16, .bool false), (15, .pointer (some ⟨d, 2 + i.toNat * 3, none⟩)), (0, .pointer (some ⟨d, 0, none⟩)), (2, .int .i64 i), (3, .int .i64 x), (9, .pointer (some ⟨d, 2 + i.toNat * 3, none⟩))]) (by intro u; kernel_rfl) ?_
 refine SOps.nil (.inl rfl) ?_
 refine At.pick [0, 2, 3, 9, 14] (e' := [(0, .pointer (some ⟨d, 0, none⟩)), (2, .int .i64 i), (3, .int .i64 x), (9, .pointer (some ⟨d, 2 + i.toNat * 3, none⟩)), (14, .bool false)]) (by kernel_rfl) ?_
 refine At.cond 300 false (c := .tmp 14) (k1 := pt11_4) (k2 := pt11_5) (by kernel_rfl) (by intro u; kernel_rfl) (fun h => by cases h) (fun _ => ?_)
 refine At.pick [0, 2, 3, 9] (e' := [(0, .pointer (some ⟨d, 0, none⟩)), (2, .int .i64 i), (3, .int .i64 x), (9, .pointer (some ⟨d, 2 + i.toNat * 3, none⟩))]) (by kernel_rfl) ?_
 refine At.region (ops := opt11_5) (m := 13) (k' := kt11_6) (by kernel_rfl) 300 (k'' := pt11_7) (by kernel_rfl) ?_
 refine SOps.pures 2 (i' := 2) (m' := 11) (e' := [(21, .int .i64 i), (20, .pointer (some ⟨d, 0, none⟩)), (0, .pointer (some ⟨d, 0, none⟩)), (2, .int .i64 i), (3, .int .i64 x), (9, .pointer (some ⟨d, 2 + i.toNat * 3, none⟩))]) (by intro u; kernel_rfl) ?_
 have hc := heldM d (s.tick t) i (by omega) (by omega)
 rw [show (s.tick t).held i.toNat = true from hh] at hc
 refine SOps.o (Op.callS 22 15 #[.pointer (some ⟨d, 0, none⟩), .int .i64 i] (.bool true) [0] (B := [DeskC d (s.tick t)]) (D := []) (by intro u; kernel_rfl) (hc) (by first | exact .inr rfl | exact .inl rfl) (by kernel_rfl) ?_)
 refine SOps.pures 5 (i' := 8) (m' := 5) (e' := [(27, .pointer (some ⟨d, 2 + i.toNat * 3 + 1, none⟩)), (26, .pointer (some ⟨d, 2 + i.toNat * 3, none⟩)), (25, .pointer (some ⟨d, 2 + i.toNat * 3, none⟩)), (24, .bool false), (23, .bool false), (22, .bool true), (21, .int .i64 i), (20, .pointer (some ⟨d, 0, none⟩)), (0, .pointer (some ⟨d, 0, none⟩)), (2, .int .i64 i), (3, .int .i64 x), (9, .pointer (some ⟨d, 2 + i.toNat * 3, none⟩))]) (by intro u; kernel_rfl) ?_
 refine SOps.v (Val.ld1 0 28 3 d (2 + i.toNat * 3 + 1) (.int .i64 (((s.tick t).th i.toNat).tok)) rfl (by intro u; kernel_rfl) (by kernel_rfl) (Rd.tok (k := i.toNat) (by omega))) ?_
 refine SOps.pures 4 (i' := 13) (m' := 0) (e' := [(19, .bool ((((s.tick t).th i.toNat).tok) != x)), (31, .bool ((((s.tick t).th i.toNat).tok) != x)), (30, .bool ((((s.tick t).th i.toNat).tok) != x)), (29, .int .i64 x), (28, .int .i64 (((s.tick t).th i.toNat).tok)), (27, .pointer (some ⟨d, 2 + i.toNat * 3 + 1, none⟩)), (26, .pointer (some ⟨d, 2 + i.toNat * 3, none⟩)), (25, .pointer (some ⟨d, 2 + i.toNat * 3, none⟩)), (24, .bool false), (23, .bool false), (22, .bool true), (21, .int .i64 i), (20, .pointer (some ⟨d, 0, none⟩)), (0, .pointer (some ⟨d, 0, none⟩)), (2, .int .i64 i), (3, .int .i64 x), (9, .pointer (some ⟨d, 2 + i.toNat * 3, none⟩))]) (by intro u; kernel_rfl) ?_
 refine SOps.nil (.inl rfl) ?_
 refine At.pick [0, 2, 19] (e' := [(0, .pointer (some ⟨d, 0, none⟩)), (2, .int .i64 i), (19, .bool ((((s.tick t).th i.toNat).tok) != x))]) (by kernel_rfl) ?_
 refine At.split (fun zq => [(0, .pointer (some ⟨d, 0, none⟩)), (2, .int .i64 i), (19, .bool zq)]) (((((s.tick t).th i.toNat).tok) != x)) (fun hx1 => ?_) (fun hx1 => ?_)
 ·have hx1 : ((s.tick t).th i.toNat).tok ≠ x := by simpa using hx1
  exact absurd hx1 (by omega)
 ·have hx1 : ((s.tick t).th i.toNat).tok = x := by simpa using hx1
  refine At.cond 300 false (c := .tmp 19) (k1 := pt11_8) (k2 := pt11_9) (by kernel_rfl) (by intro u; kernel_rfl) (fun h => by cases h) (fun _ => ?_)
  refine At.pick [0, 2] (e' := [(0, .pointer (some ⟨d, 0, none⟩)), (2, .int .i64 i)]) (by kernel_rfl) ?_
  refine At.region (ops := opt11_9) (m := 6) (k' := kt11_8) (by kernel_rfl) 300 (k'' := pt11_11) (by kernel_rfl) ?_
  refine SOps.pures 4 (i' := 4) (m' := 2) (e' := [(35, .pointer (some ⟨d, 770, none⟩)), (34, .pointer (some ⟨d, 0, none⟩)), (33, .int .i64 i), (32, .pointer (some ⟨d, 0, none⟩)), (0, .pointer (some ⟨d, 0, none⟩)), (2, .int .i64 i)]) (by intro u; kernel_rfl) ?_
  refine SOps.v (Val.pv 36 (vN (Instr.indexAt 49 (.pointer (some ⟨d, 770, none⟩)) (.int .i64 i))) (.pointer (some ⟨d, 770 + i.toNat, none⟩)) (by intro u; kernel_rfl) (pv_indexA (el := 4) (sz := 1) (by kernel_rfl) (by kernel_rfl) (by omega) (by omega) (by omega))) ?_
  refine SOps.o (Op.st 0 4 d (770 + i.toNat) (.bool true) [.bool true] 1 (B' := DeskC d ((s.tick t).put i.toNat ⟨((s.tick t).th i.toNat).who, ((s.tick t).th i.toNat).tok, ((s.tick t).th i.toNat).fin, true⟩)) (A' := [DeskC d ((s.tick t).put i.toNat ⟨((s.tick t).th i.toNat).who, ((s.tick t).th i.toNat).tok, ((s.tick t).th i.toNat).fin, true⟩)]) rfl (by intro u; kernel_rfl) rfl (by kernel_rfl) rfl rfl (Wr.given (k := i.toNat) (by omega) _) rfl ?_)
  refine SOps.nil (.inl rfl) ?_
  refine At.pick [] (e' := []) (by kernel_rfl) ?_
  refine At.region (ops := opt11_11) (m := 1) (k' := kt11_9) (by kernel_rfl) 300 (k'' := pt11_12) (by kernel_rfl) ?_
  refine SOps.pures 1 (i' := 1) (m' := 0) (e' := [(8, .int .i64 0)]) (by intro u; kernel_rfl) ?_
  refine SOps.nil (.inl rfl) ?_
  refine At.ret1 (fn := Try.f11) (v := .int .i64 0) (t := 8) (by kernel_rfl) Try.func11 (by kernel_rfl) (by kernel_rfl) (fun F w ho => ?_)
  exact shutV (rfl) [0] rfl ho
end Go.Proofs.Le
