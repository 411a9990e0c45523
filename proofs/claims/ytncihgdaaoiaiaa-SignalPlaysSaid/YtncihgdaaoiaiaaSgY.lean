/- Signals: the fixed answers. -/
import Derived.Test.YtncihgdaaoiaiaaSgE
import Derived.Test.YtncihgdaaoiaiaaSgX
namespace Go.Proofs.Sg
open Go Go.Sp Go.Sg
set_option linter.unusedVariables false
set_option linter.unusedSimpArgs false
set_option linter.unnecessarySimpa false
set_option maxRecDepth 100000
noncomputable def bd4 : Code := (Try.f4.body).getD .skip
noncomputable def kt4_0 : List Item := .code (pick [1] bd4) :: []
noncomputable def pt4_0 : List Item := .code (pick [0] bd4) :: kt4_0
noncomputable def opt4_0 : Array Oper := opsOf (pick [0] bd4)
noncomputable def kt4_1 : List Item := .code (pick [1, 1] bd4) :: []
noncomputable def pt4_1 : List Item := .code (pick [1, 0] bd4) :: kt4_1
noncomputable def opt4_1 : Array Oper := opsOf (pick [1, 0] bd4)
noncomputable def kt4_2 : List Item := .code (pick [1, 1, 1] bd4) :: []
noncomputable def pt4_2 : List Item := .code (pick [1, 1, 0] bd4) :: kt4_2
noncomputable def opt4_2 : Array Oper := opsOf (pick [1, 1, 0] bd4)
noncomputable def kt4_3 : List Item := .code (pick [1, 1, 1, 1] bd4) :: []
noncomputable def pt4_3 : List Item := .code (pick [1, 1, 1, 0] bd4) :: kt4_3
noncomputable def opt4_3 : Array Oper := opsOf (pick [1, 1, 1, 0] bd4)
noncomputable def kt4_4 : List Item := .code (pick [1, 1, 1, 1, 1] bd4) :: []
noncomputable def pt4_4 : List Item := .code (pick [1, 1, 1, 1, 0] bd4) :: kt4_4
noncomputable def opt4_4 : Array Oper := opsOf (pick [1, 1, 1, 1, 0] bd4)
noncomputable def kt4_5 : List Item := .code (pick [1, 1, 1, 1, 1, 1] bd4) :: []
noncomputable def pt4_5 : List Item := .code (pick [1, 1, 1, 1, 1, 0] bd4) :: kt4_5
noncomputable def opt4_5 : Array Oper := opsOf (pick [1, 1, 1, 1, 1, 0] bd4)
noncomputable def kt4_6 : List Item := .code (pick [1, 1, 1, 1, 1, 1, 1] bd4) :: []
noncomputable def pt4_6 : List Item := .code (pick [1, 1, 1, 1, 1, 1, 0] bd4) :: kt4_6
noncomputable def opt4_6 : Array Oper := opsOf (pick [1, 1, 1, 1, 1, 1, 0] bd4)
noncomputable def kt4_7 : List Item := .code (pick [1, 1, 1, 1, 1, 1, 1, 1] bd4) :: []
noncomputable def pt4_7 : List Item := .code (pick [1, 1, 1, 1, 1, 1, 1, 0] bd4) :: kt4_7
noncomputable def opt4_7 : Array Oper := opsOf (pick [1, 1, 1, 1, 1, 1, 1, 0] bd4)
noncomputable def kt4_8 : List Item := .code (pick [1, 1, 1, 1, 1, 1, 1, 1, 1] bd4) :: []
noncomputable def pt4_8 : List Item := .code (pick [1, 1, 1, 1, 1, 1, 1, 1, 0] bd4) :: kt4_8
noncomputable def opt4_8 : Array Oper := opsOf (pick [1, 1, 1, 1, 1, 1, 1, 1, 0] bd4)
noncomputable def kt4_9 : List Item := .code (pick [1, 1, 1, 1, 1, 1, 1, 1, 1, 1] bd4) :: []
noncomputable def pt4_9 : List Item := .code (pick [1, 1, 1, 1, 1, 1, 1, 1, 1, 0] bd4) :: kt4_9
noncomputable def opt4_9 : Array Oper := opsOf (pick [1, 1, 1, 1, 1, 1, 1, 1, 1, 0] bd4)
noncomputable def kt4_10 : List Item := .code (pick [1, 1, 1, 1, 1, 1, 1, 1, 1, 1, 1] bd4) :: []
noncomputable def pt4_10 : List Item := .code (pick [1, 1, 1, 1, 1, 1, 1, 1, 1, 1, 0] bd4) :: kt4_10
noncomputable def opt4_10 : Array Oper := opsOf (pick [1, 1, 1, 1, 1, 1, 1, 1, 1, 1, 0] bd4)
noncomputable def pt4_11 : List Item := .code (pick [1, 1, 1, 1, 1, 1, 1, 1, 1, 1, 1] bd4) :: []
theorem fixedF  : Ctr Try.prog 4 #[] [] (fun v' => star (fact (v' = .bool true) :: [])) false := by
 refine spec_of_at (fn := Try.f4) (c := bd4) (args := []) (n := 93) (e := []) (k := pt4_0) Try.func4 (by kernel_rfl) (by kernel_rfl) (by kernel_rfl) (by kernel_rfl) 300 (by kernel_rfl) ?_
 refine At.region (ops := opt4_0) (m := 1) (k' := kt4_0) (by kernel_rfl) 300 (k'' := pt4_1) (by kernel_rfl) ?_
 refine SOps.pures 1 (i' := 1) (m' := 0) (e' := [(0, .bool false)]) (by intro u; kernel_rfl) ?_
 refine SOps.nil (.inl rfl) ?_
 refine At.pick [] (e' := []) (by kernel_rfl) ?_
 refine At.region (ops := opt4_1) (m := 2) (k' := kt4_1) (by kernel_rfl) 300 (k'' := pt4_2) (by kernel_rfl) ?_
 refine SOps.o (Op.callX 13 5 #[] _ _ [] (B := []) (D := []) (by intro u; kernel_rfl) (newM) (by first | exact .inr rfl | exact .inl rfl) (by kernel_rfl) ?_)
 rintro qx1 -
 refine SOps.pures 1 (i' := 2) (m' := 0) (e' := [(1, .pointer (some ⟨qx1, 0, none⟩)), (13, .pointer (some ⟨qx1, 0, none⟩))]) (by intro u; kernel_rfl) ?_
 refine SOps.nil (.inl rfl) ?_
 refine At.pick [1] (e' := [(1, .pointer (some ⟨qx1, 0, none⟩))]) (by kernel_rfl) ?_
 refine At.region (ops := opt4_2) (m := 6) (k' := kt4_2) (by kernel_rfl) 300 (k'' := pt4_3) (by kernel_rfl) ?_
 refine SOps.pures 1 (i' := 1) (m' := 5) (e' := [(14, .pointer (some ⟨qx1, 0, none⟩)), (1, .pointer (some ⟨qx1, 0, none⟩))]) (by intro u; kernel_rfl) ?_
 have hc := sendM qx1 [] (0#64) g0 14 3 0
 rw [y1, y2] at hc
 refine SOps.o (Op.callS 15 7 #[.pointer (some ⟨qx1, 0, none⟩), .int .i64 14, .int .i64 3, .int .i64 0] (.int .i64 0) [0] (B := [QuC qx1 ([]) (0#64)]) (D := []) (by intro u; kernel_rfl) (hc) (by first | exact .inr rfl | exact .inl rfl) (by kernel_rfl) ?_)
 refine SOps.pures 1 (i' := 3) (m' := 3) (e' := [(16, .pointer (some ⟨qx1, 0, none⟩)), (15, .int .i64 0), (14, .pointer (some ⟨qx1, 0, none⟩)), (1, .pointer (some ⟨qx1, 0, none⟩))]) (by intro u; kernel_rfl) ?_
 have hc := sendM qx1 [a1] (0#64) g1 14 3 0
 rw [y3, y4] at hc
 refine SOps.o (Op.callS 17 7 #[.pointer (some ⟨qx1, 0, none⟩), .int .i64 14, .int .i64 3, .int .i64 0] (.int .i64 0) [0] (B := [QuC qx1 ([a1]) (0#64)]) (D := []) (by intro u; kernel_rfl) (hc) (by first | exact .inr rfl | exact .inl rfl) (by kernel_rfl) ?_)
 refine SOps.pures 2 (i' := 6) (m' := 0) (e' := [(3, .int .i64 0), (2, .int .i64 0), (17, .int .i64 0), (16, .pointer (some ⟨qx1, 0, none⟩)), (15, .int .i64 0), (14, .pointer (some ⟨qx1, 0, none⟩)), (1, .pointer (some ⟨qx1, 0, none⟩))]) (by intro u; kernel_rfl) ?_
 refine SOps.nil (.inl rfl) ?_
 refine At.pick [1, 2, 3] (e' := [(1, .pointer (some ⟨qx1, 0, none⟩)), (2, .int .i64 0), (3, .int .i64 0)]) (by kernel_rfl) ?_
 refine At.region (ops := opt4_3) (m := 3) (k' := kt4_3) (by kernel_rfl) 300 (k'' := pt4_4) (by kernel_rfl) ?_
 refine SOps.pures 1 (i' := 1) (m' := 2) (e' := [(18, .pointer (some ⟨qx1, 0, none⟩)), (1, .pointer (some ⟨qx1, 0, none⟩)), (2, .int .i64 0), (3, .int .i64 0)]) (by intro u; kernel_rfl) ?_
 have hc := sendM qx1 [a2] (0#64) g2 9 (-1) 0
 rw [y5, y6] at hc
 refine SOps.o (Op.callS 19 7 #[.pointer (some ⟨qx1, 0, none⟩), .int .i64 9, .int .i64 (-1), .int .i64 0] (.int .i64 0) [0] (B := [QuC qx1 ([a2]) (0#64)]) (D := []) (by intro u; kernel_rfl) (hc) (by first | exact .inr rfl | exact .inl rfl) (by kernel_rfl) ?_)
 refine SOps.pures 1 (i' := 3) (m' := 0) (e' := [(4, .int .i64 0), (19, .int .i64 0), (18, .pointer (some ⟨qx1, 0, none⟩)), (1, .pointer (some ⟨qx1, 0, none⟩)), (2, .int .i64 0), (3, .int .i64 0)]) (by intro u; kernel_rfl) ?_
 refine SOps.nil (.inl rfl) ?_
 refine At.pick [1, 2, 3, 4] (e' := [(1, .pointer (some ⟨qx1, 0, none⟩)), (2, .int .i64 0), (3, .int .i64 0), (4, .int .i64 0)]) (by kernel_rfl) ?_
 refine At.region (ops := opt4_4) (m := 3) (k' := kt4_4) (by kernel_rfl) 300 (k'' := pt4_5) (by kernel_rfl) ?_
 refine SOps.pures 1 (i' := 1) (m' := 2) (e' := [(20, .pointer (some ⟨qx1, 0, none⟩)), (1, .pointer (some ⟨qx1, 0, none⟩)), (2, .int .i64 0), (3, .int .i64 0), (4, .int .i64 0)]) (by intro u; kernel_rfl) ?_
 have hc := blockM qx1 [a2, a3] (0#64) g3 14 true
 rw [y7, show blockW (0#64) 14 true = w14 from rfl] at hc
 refine SOps.o (Op.callS 21 9 #[.pointer (some ⟨qx1, 0, none⟩), .int .i64 14, .bool true] (.bool false) [0] (B := [QuC qx1 ([a2, a3]) (0#64)]) (D := []) (by intro u; kernel_rfl) (hc) (by first | exact .inr rfl | exact .inl rfl) (by kernel_rfl) ?_)
 refine SOps.pures 1 (i' := 3) (m' := 0) (e' := [(5, .bool false), (21, .bool false), (20, .pointer (some ⟨qx1, 0, none⟩)), (1, .pointer (some ⟨qx1, 0, none⟩)), (2, .int .i64 0), (3, .int .i64 0), (4, .int .i64 0)]) (by intro u; kernel_rfl) ?_
 refine SOps.nil (.inl rfl) ?_
 refine At.pick [1, 2, 3, 4, 5] (e' := [(1, .pointer (some ⟨qx1, 0, none⟩)), (2, .int .i64 0), (3, .int .i64 0), (4, .int .i64 0), (5, .bool false)]) (by kernel_rfl) ?_
 refine At.region (ops := opt4_5) (m := 8) (k' := kt4_5) (by kernel_rfl) 300 (k'' := pt4_6) (by kernel_rfl) ?_
 refine SOps.pures 1 (i' := 1) (m' := 7) (e' := [(23, .pointer (some ⟨qx1, 0, none⟩)), (1, .pointer (some ⟨qx1, 0, none⟩)), (2, .int .i64 0), (3, .int .i64 0), (4, .int .i64 0), (5, .bool false)]) (by intro u; kernel_rfl) ?_
 have hc := takeM qx1 [a2, a3] w14 g3
 rw [y8, y9, y10] at hc
 refine SOps.o (Op.callS 24 8 #[.pointer (some ⟨qx1, 0, none⟩)] (.tuple #[.agg #[.int .i64 9, .int .i64 (-1), .int .i64 0], .bool true]) [0] (B := [QuC qx1 ([a2, a3]) w14]) (D := []) (by intro u; kernel_rfl) (hc) (by first | exact .inr rfl | exact .inl rfl) (by kernel_rfl) ?_)
 refine SOps.pures 3 (i' := 5) (m' := 3) (e' := [(26, .bool true), (25, .agg #[.int .i64 9, .int .i64 (-1), .int .i64 0]), (22, .tuple #[.agg #[.int .i64 9, .int .i64 (-1), .int .i64 0], .bool true]), (24, .tuple #[.agg #[.int .i64 9, .int .i64 (-1), .int .i64 0], .bool true]), (23, .pointer (some ⟨qx1, 0, none⟩)), (1, .pointer (some ⟨qx1, 0, none⟩)), (2, .int .i64 0), (3, .int .i64 0), (4, .int .i64 0), (5, .bool false)]) (by intro u; kernel_rfl) ?_
 refine SOps.o (Op.new 6 31 [.int .i64 0, .int .i64 0, .int .i64 0] (fun b => .pointer (some ⟨b, 0, none⟩)) (by intro u b; kernel_rfl) ?_)
 intro bx2
 refine SOps.o (Op.st 0 31 bx2 0 (.agg #[.int .i64 9, .int .i64 (-1), .int .i64 0]) [.int .i64 9, .int .i64 (-1), .int .i64 0] 3 (B' := Cells bx2 31 [.int .i64 9, .int .i64 (-1), .int .i64 0]) (A' := [Cells bx2 31 [.int .i64 9, .int .i64 (-1), .int .i64 0], QuC qx1 ([a2]) w14]) rfl (by intro u; kernel_rfl) rfl (by kernel_rfl) rfl rfl (Wr.cells rfl rfl) rfl ?_)
 refine SOps.pures 1 (i' := 8) (m' := 0) (e' := [(7, .bool true), (6, .pointer (some ⟨bx2, 0, none⟩)), (26, .bool true), (25, .agg #[.int .i64 9, .int .i64 (-1), .int .i64 0]), (22, .tuple #[.agg #[.int .i64 9, .int .i64 (-1), .int .i64 0], .bool true]), (24, .tuple #[.agg #[.int .i64 9, .int .i64 (-1), .int .i64 0], .bool true]), (23, .pointer (some ⟨qx1, 0, none⟩)), (1, .pointer (some ⟨qx1, 0, none⟩)), (2, .int .i64 0), (3, .int .i64 0), (4, .int .i64 0), (5, .bool false)]) (by intro u; kernel_rfl) ?_
 refine SOps.nil (.inl rfl) ?_
 refine At.pick [1, 2, 3, 4, 5, 6, 7] (e' := [(1, .pointer (some ⟨qx1, 0, none⟩)), (2, .int .i64 0), (3, .int .i64 0), (4, .int .i64 0), (5, .bool false), (6, .pointer (some ⟨bx2, 0, none⟩)), (7, .bool true)]) (by kernel_rfl) ?_
 refine At.region (ops := opt4_6) (m := 2) (k' := kt4_6) (by kernel_rfl) 300 (k'' := pt4_7) (by kernel_rfl) ?_
 refine SOps.pures 1 (i' := 1) (m' := 1) (e' := [(27, .pointer (some ⟨qx1, 0, none⟩)), (1, .pointer (some ⟨qx1, 0, none⟩)), (2, .int .i64 0), (3, .int .i64 0), (4, .int .i64 0), (5, .bool false), (6, .pointer (some ⟨bx2, 0, none⟩)), (7, .bool true)]) (by intro u; kernel_rfl) ?_
 have hc := blockM qx1 [a2] w14 g2 14 false
 rw [y11, show blockW w14 14 false = w0 from rfl] at hc
 refine SOps.o (Op.callS 28 9 #[.pointer (some ⟨qx1, 0, none⟩), .int .i64 14, .bool false] (.bool true) [1] (B := [QuC qx1 ([a2]) w14]) (D := [Cells bx2 31 [.int .i64 9, .int .i64 (-1), .int .i64 0]]) (by intro u; kernel_rfl) (hc) (by first | exact .inr rfl | exact .inl rfl) (by kernel_rfl) ?_)
 refine SOps.nil (.inl rfl) ?_
 refine At.pick [1, 2, 3, 4, 5, 6, 7] (e' := [(1, .pointer (some ⟨qx1, 0, none⟩)), (2, .int .i64 0), (3, .int .i64 0), (4, .int .i64 0), (5, .bool false), (6, .pointer (some ⟨bx2, 0, none⟩)), (7, .bool true)]) (by kernel_rfl) ?_
 refine At.region (ops := opt4_7) (m := 8) (k' := kt4_7) (by kernel_rfl) 300 (k'' := pt4_8) (by kernel_rfl) ?_
 refine SOps.pures 1 (i' := 1) (m' := 7) (e' := [(30, .pointer (some ⟨qx1, 0, none⟩)), (1, .pointer (some ⟨qx1, 0, none⟩)), (2, .int .i64 0), (3, .int .i64 0), (4, .int .i64 0), (5, .bool false), (6, .pointer (some ⟨bx2, 0, none⟩)), (7, .bool true)]) (by intro u; kernel_rfl) ?_
 have hc := takeM qx1 [a2] w0 g2
 rw [y12, y13, y14] at hc
 refine SOps.o (Op.callS 31 8 #[.pointer (some ⟨qx1, 0, none⟩)] (.tuple #[.agg #[.int .i64 14, .int .i64 3, .int .i64 1], .bool true]) [0] (B := [QuC qx1 ([a2]) w0]) (D := [Cells bx2 31 [.int .i64 9, .int .i64 (-1), .int .i64 0]]) (by intro u; kernel_rfl) (hc) (by first | exact .inr rfl | exact .inl rfl) (by kernel_rfl) ?_)
 refine SOps.pures 3 (i' := 5) (m' := 3) (e' := [(33, .bool true), (32, .agg #[.int .i64 14, .int .i64 3, .int .i64 1]), (29, .tuple #[.agg #[.int .i64 14, .int .i64 3, .int .i64 1], .bool true]), (31, .tuple #[.agg #[.int .i64 14, .int .i64 3, .int .i64 1], .bool true]), (30, .pointer (some ⟨qx1, 0, none⟩)), (1, .pointer (some ⟨qx1, 0, none⟩)), (2, .int .i64 0), (3, .int .i64 0), (4, .int .i64 0), (5, .bool false), (6, .pointer (some ⟨bx2, 0, none⟩)), (7, .bool true)]) (by intro u; kernel_rfl) ?_
 refine SOps.o (Op.new 8 31 [.int .i64 0, .int .i64 0, .int .i64 0] (fun b => .pointer (some ⟨b, 0, none⟩)) (by intro u b; kernel_rfl) ?_)
 intro bx3
 refine SOps.o (Op.st 0 31 bx3 0 (.agg #[.int .i64 14, .int .i64 3, .int .i64 1]) [.int .i64 14, .int .i64 3, .int .i64 1] 3 (B' := Cells bx3 31 [.int .i64 14, .int .i64 3, .int .i64 1]) (A' := [Cells bx3 31 [.int .i64 14, .int .i64 3, .int .i64 1], QuC qx1 ([]) w0, Cells bx2 31 [.int .i64 9, .int .i64 (-1), .int .i64 0]]) rfl (by intro u; kernel_rfl) rfl (by kernel_rfl) rfl rfl (Wr.cells rfl rfl) rfl ?_)
 refine SOps.pures 1 (i' := 8) (m' := 0) (e' := [(9, .bool true), (8, .pointer (some ⟨bx3, 0, none⟩)), (33, .bool true), (32, .agg #[.int .i64 14, .int .i64 3, .int .i64 1]), (29, .tuple #[.agg #[.int .i64 14, .int .i64 3, .int .i64 1], .bool true]), (31, .tuple #[.agg #[.int .i64 14, .int .i64 3, .int .i64 1], .bool true]), (30, .pointer (some ⟨qx1, 0, none⟩)), (1, .pointer (some ⟨qx1, 0, none⟩)), (2, .int .i64 0), (3, .int .i64 0), (4, .int .i64 0), (5, .bool false), (6, .pointer (some ⟨bx2, 0, none⟩)), (7, .bool true)]) (by intro u; kernel_rfl) ?_
 refine SOps.nil (.inl rfl) ?_
 refine At.pick [1, 2, 3, 4, 5, 6, 7, 8, 9] (e' := [(1, .pointer (some ⟨qx1, 0, none⟩)), (2, .int .i64 0), (3, .int .i64 0), (4, .int .i64 0), (5, .bool false), (6, .pointer (some ⟨bx2, 0, none⟩)), (7, .bool true), (8, .pointer (some ⟨bx3, 0, none⟩)), (9, .bool true)]) (by kernel_rfl) ?_
 refine At.region (ops := opt4_8) (m := 8) (k' := kt4_8) (by kernel_rfl) 300 (k'' := pt4_9) (by kernel_rfl) ?_
 refine SOps.pures 1 (i' := 1) (m' := 7) (e' := [(35, .pointer (some ⟨qx1, 0, none⟩)), (1, .pointer (some ⟨qx1, 0, none⟩)), (2, .int .i64 0), (3, .int .i64 0), (4, .int .i64 0), (5, .bool false), (6, .pointer (some ⟨bx2, 0, none⟩)), (7, .bool true), (8, .pointer (some ⟨bx3, 0, none⟩)), (9, .bool true)]) (by intro u; kernel_rfl) ?_
 have hc := takeM qx1 [] w0 g0
 rw [y15, y16, y17] at hc
 refine SOps.o (Op.callS 36 8 #[.pointer (some ⟨qx1, 0, none⟩)] (.tuple #[.agg #[.int .i64 0, .int .i64 0, .int .i64 0], .bool false]) [1] (B := [QuC qx1 ([]) w0]) (D := [Cells bx3 31 [.int .i64 14, .int .i64 3, .int .i64 1], Cells bx2 31 [.int .i64 9, .int .i64 (-1), .int .i64 0]]) (by intro u; kernel_rfl) (hc) (by first | exact .inr rfl | exact .inl rfl) (by kernel_rfl) ?_)
 refine SOps.pures 3 (i' := 5) (m' := 3) (e' := [(38, .bool false), (37, .agg #[.int .i64 0, .int .i64 0, .int .i64 0]), (34, .tuple #[.agg #[.int .i64 0, .int .i64 0, .int .i64 0], .bool false]), (36, .tuple #[.agg #[.int .i64 0, .int .i64 0, .int .i64 0], .bool false]), (35, .pointer (some ⟨qx1, 0, none⟩)), (1, .pointer (some ⟨qx1, 0, none⟩)), (2, .int .i64 0), (3, .int .i64 0), (4, .int .i64 0), (5, .bool false), (6, .pointer (some ⟨bx2, 0, none⟩)), (7, .bool true), (8, .pointer (some ⟨bx3, 0, none⟩)), (9, .bool true)]) (by intro u; kernel_rfl) ?_
 refine SOps.o (Op.new 10 31 [.int .i64 0, .int .i64 0, .int .i64 0] (fun b => .pointer (some ⟨b, 0, none⟩)) (by intro u b; kernel_rfl) ?_)
 intro bx4
 refine SOps.o (Op.st 0 31 bx4 0 (.agg #[.int .i64 0, .int .i64 0, .int .i64 0]) [.int .i64 0, .int .i64 0, .int .i64 0] 3 (B' := Cells bx4 31 [.int .i64 0, .int .i64 0, .int .i64 0]) (A' := [Cells bx4 31 [.int .i64 0, .int .i64 0, .int .i64 0], QuC qx1 ([]) w0, Cells bx3 31 [.int .i64 14, .int .i64 3, .int .i64 1], Cells bx2 31 [.int .i64 9, .int .i64 (-1), .int .i64 0]]) rfl (by intro u; kernel_rfl) rfl (by kernel_rfl) rfl rfl (Wr.cells rfl rfl) rfl ?_)
 refine SOps.pures 1 (i' := 8) (m' := 0) (e' := [(11, .bool false), (10, .pointer (some ⟨bx4, 0, none⟩)), (38, .bool false), (37, .agg #[.int .i64 0, .int .i64 0, .int .i64 0]), (34, .tuple #[.agg #[.int .i64 0, .int .i64 0, .int .i64 0], .bool false]), (36, .tuple #[.agg #[.int .i64 0, .int .i64 0, .int .i64 0], .bool false]), (35, .pointer (some ⟨qx1, 0, none⟩)), (1, .pointer (some ⟨qx1, 0, none⟩)), (2, .int .i64 0), (3, .int .i64 0), (4, .int .i64 0), (5, .bool false), (6, .pointer (some ⟨bx2, 0, none⟩)), (7, .bool true), (8, .pointer (some ⟨bx3, 0, none⟩)), (9, .bool true)]) (by intro u; kernel_rfl) ?_
 refine SOps.nil (.inl rfl) ?_
 refine At.pick [1, 2, 3, 4, 5, 6, 7, 8, 9, 11] (e' := [(1, .pointer (some ⟨qx1, 0, none⟩)), (2, .int .i64 0), (3, .int .i64 0), (4, .int .i64 0), (5, .bool false), (6, .pointer (some ⟨bx2, 0, none⟩)), (7, .bool true), (8, .pointer (some ⟨bx3, 0, none⟩)), (9, .bool true), (11, .bool false)]) (by kernel_rfl) ?_
 refine At.region (ops := opt4_9) (m := 1) (k' := kt4_9) (by kernel_rfl) 300 (k'' := pt4_10) (by kernel_rfl) ?_
 refine SOps.pures 1 (i' := 1) (m' := 0) (e' := [(12, .pointer none), (1, .pointer (some ⟨qx1, 0, none⟩)), (2, .int .i64 0), (3, .int .i64 0), (4, .int .i64 0), (5, .bool false), (6, .pointer (some ⟨bx2, 0, none⟩)), (7, .bool true), (8, .pointer (some ⟨bx3, 0, none⟩)), (9, .bool true), (11, .bool false)]) (by intro u; kernel_rfl) ?_
 refine SOps.nil (.inl rfl) ?_
 refine At.pick [1, 2, 3, 4, 5, 6, 7, 8, 9, 11, 12] (e' := [(1, .pointer (some ⟨qx1, 0, none⟩)), (2, .int .i64 0), (3, .int .i64 0), (4, .int .i64 0), (5, .bool false), (6, .pointer (some ⟨bx2, 0, none⟩)), (7, .bool true), (8, .pointer (some ⟨bx3, 0, none⟩)), (9, .bool true), (11, .bool false), (12, .pointer none)]) (by kernel_rfl) ?_
 refine At.region (ops := opt4_10) (m := 55) (k' := kt4_10) (by kernel_rfl) 300 (k'' := pt4_11) (by kernel_rfl) ?_
 refine SOps.pures 19 (i' := 19) (m' := 36) (e' := [(57, .pointer (some ⟨bx2, 0, none⟩)), (56, .bool true), (55, .bool true), (54, .bool true), (53, .bool true), (52, .bool true), (51, .bool true), (50, .bool false), (49, .bool true), (48, .bool true), (47, .bool true), (46, .int .i64 0), (45, .bool true), (44, .bool true), (43, .bool true), (42, .int .i64 0), (41, .bool true), (40, .bool true), (39, .int .i64 0), (1, .pointer (some ⟨qx1, 0, none⟩)), (2, .int .i64 0), (3, .int .i64 0), (4, .int .i64 0), (5, .bool false), (6, .pointer (some ⟨bx2, 0, none⟩)), (7, .bool true), (8, .pointer (some ⟨bx3, 0, none⟩)), (9, .bool true), (11, .bool false), (12, .pointer none)]) (by intro u; kernel_rfl) ?_
 refine SOps.v (Val.ld1 3 58 3 bx2 0 (.int .i64 9) rfl (by intro u; kernel_rfl) (by kernel_rfl) (Rd.cells rfl)) ?_
 refine SOps.pures 6 (i' := 26) (m' := 29) (e' := [(64, .bool true), (63, .bool true), (62, .bool true), (61, .bool true), (60, .bool true), (59, .bool true), (58, .int .i64 9), (57, .pointer (some ⟨bx2, 0, none⟩)), (56, .bool true), (55, .bool true), (54, .bool true), (53, .bool true), (52, .bool true), (51, .bool true), (50, .bool false), (49, .bool true), (48, .bool true), (47, .bool true), (46, .int .i64 0), (45, .bool true), (44, .bool true), (43, .bool true), (42, .int .i64 0), (41, .bool true), (40, .bool true), (39, .int .i64 0), (1, .pointer (some ⟨qx1, 0, none⟩)), (2, .int .i64 0), (3, .int .i64 0), (4, .int .i64 0), (5, .bool false), (6, .pointer (some ⟨bx2, 0, none⟩)), (7, .bool true), (8, .pointer (some ⟨bx3, 0, none⟩)), (9, .bool true), (11, .bool false), (12, .pointer none)]) (by intro u; kernel_rfl) ?_
 refine SOps.v (Val.ldN 2 65 31 bx3 0 3 [.int .i64 14, .int .i64 3, .int .i64 1] rfl (by intro u; kernel_rfl) (by kernel_rfl) (by kernel_rfl) rfl ⟨(Rd.cells rfl), (Rd.cells rfl), (Rd.cells rfl), trivial⟩) ?_
 refine SOps.pures 1 (i' := 28) (m' := 27) (e' := [(66, .agg #[.int .i64 14, .int .i64 3, .int .i64 1]), (65, .agg #[.int .i64 14, .int .i64 3, .int .i64 1]), (64, .bool true), (63, .bool true), (62, .bool true), (61, .bool true), (60, .bool true), (59, .bool true), (58, .int .i64 9), (57, .pointer (some ⟨bx2, 0, none⟩)), (56, .bool true), (55, .bool true), (54, .bool true), (53, .bool true), (52, .bool true), (51, .bool true), (50, .bool false), (49, .bool true), (48, .bool true), (47, .bool true), (46, .int .i64 0), (45, .bool true), (44, .bool true), (43, .bool true), (42, .int .i64 0), (41, .bool true), (40, .bool true), (39, .int .i64 0), (1, .pointer (some ⟨qx1, 0, none⟩)), (2, .int .i64 0), (3, .int .i64 0), (4, .int .i64 0), (5, .bool false), (6, .pointer (some ⟨bx2, 0, none⟩)), (7, .bool true), (8, .pointer (some ⟨bx3, 0, none⟩)), (9, .bool true), (11, .bool false), (12, .pointer none)]) (by intro u; kernel_rfl) ?_
 refine SOps.v (Val.of 67 (vN (do eqGuard .eql 31 (.tmp 65) (.tmp 66) (.agg #[.int .i64 14, .int .i64 3, .int .i64 1]) (.agg #[.int .i64 14, .int .i64 3, .int .i64 1]); binOp .eql 31 (.agg #[.int .i64 14, .int .i64 3, .int .i64 1]) (.agg #[.int .i64 14, .int .i64 3, .int .i64 1]))) (.bool true) (by intro u; kernel_rfl) (fun F w ho => run_eqlS (P := Try.prog) (t := 31) (xs := #[.int .i64 14, .int .i64 3, .int .i64 1]) (ys := #[.int .i64 14, .int .i64 3, .int .i64 1]) (r := true) (by kernel_rfl) (by kernel_rfl) (by kernel_rfl) (by kernel_rfl) (by kernel_rfl) w)) ?_
 refine SOps.pures 7 (i' := 36) (m' := 19) (e' := [(74, .pointer (some ⟨qx1, 0, none⟩)), (73, .bool true), (72, .bool true), (71, .bool true), (70, .bool false), (69, .bool true), (68, .bool true), (67, .bool true), (66, .agg #[.int .i64 14, .int .i64 3, .int .i64 1]), (65, .agg #[.int .i64 14, .int .i64 3, .int .i64 1]), (64, .bool true), (63, .bool true), (62, .bool true), (61, .bool true), (60, .bool true), (59, .bool true), (58, .int .i64 9), (57, .pointer (some ⟨bx2, 0, none⟩)), (56, .bool true), (55, .bool true), (54, .bool true), (53, .bool true), (52, .bool true), (51, .bool true), (50, .bool false), (49, .bool true), (48, .bool true), (47, .bool true), (46, .int .i64 0), (45, .bool true), (44, .bool true), (43, .bool true), (42, .int .i64 0), (41, .bool true), (40, .bool true), (39, .int .i64 0), (1, .pointer (some ⟨qx1, 0, none⟩)), (2, .int .i64 0), (3, .int .i64 0), (4, .int .i64 0), (5, .bool false), (6, .pointer (some ⟨bx2, 0, none⟩)), (7, .bool true), (8, .pointer (some ⟨bx3, 0, none⟩)), (9, .bool true), (11, .bool false), (12, .pointer none)]) (by intro u; kernel_rfl) ?_
 have hc := sendM qx1 [] w0 g0 0 0 0
 rw [y18, y19] at hc
 refine SOps.o (Op.callS 75 7 #[.pointer (some ⟨qx1, 0, none⟩), .int .i64 0, .int .i64 0, .int .i64 0] (.int .i64 2) [1] (B := [QuC qx1 ([]) w0]) (D := [Cells bx4 31 [.int .i64 0, .int .i64 0, .int .i64 0], Cells bx3 31 [.int .i64 14, .int .i64 3, .int .i64 1], Cells bx2 31 [.int .i64 9, .int .i64 (-1), .int .i64 0]]) (by intro u; kernel_rfl) (hc) (by first | exact .inr rfl | exact .inl rfl) (by kernel_rfl) ?_)
 refine SOps.pures 4 (i' := 41) (m' := 14) (e' := [(79, .pointer none), (78, .bool true), (77, .bool true), (76, .bool true), (75, .int .i64 2), (74, .pointer (some ⟨qx1, 0, none⟩)), (73, .bool true), (72, .bool true), (71, .bool true), (70, .bool false), (69, .bool true), (68, .bool true), (67, .bool true), (66, .agg #[.int .i64 14, .int .i64 3, .int .i64 1]), (65, .agg #[.int .i64 14, .int .i64 3, .int .i64 1]), (64, .bool true), (63, .bool true), (62, .bool true), (61, .bool true), (60, .bool true), (59, .bool true), (58, .int .i64 9), (57, .pointer (some ⟨bx2, 0, none⟩)), (56, .bool true), (55, .bool true), (54, .bool true), (53, .bool true), (52, .bool true), (51, .bool true), (50, .bool false), (49, .bool true), (48, .bool true), (47, .bool true), (46, .int .i64 0), (45, .bool true), (44, .bool true), (43, .bool true), (42, .int .i64 0), (41, .bool true), (40, .bool true), (39, .int .i64 0), (1, .pointer (some ⟨qx1, 0, none⟩)), (2, .int .i64 0), (3, .int .i64 0), (4, .int .i64 0), (5, .bool false), (6, .pointer (some ⟨bx2, 0, none⟩)), (7, .bool true), (8, .pointer (some ⟨bx3, 0, none⟩)), (9, .bool true), (11, .bool false), (12, .pointer none)]) (by intro u; kernel_rfl) ?_
 refine SOps.o (Op.callS 80 7 #[.pointer none, .int .i64 1, .int .i64 1, .int .i64 0] (.int .i64 1) [] (B := []) (D := [QuC qx1 ([]) w0, Cells bx4 31 [.int .i64 0, .int .i64 0, .int .i64 0], Cells bx3 31 [.int .i64 14, .int .i64 3, .int .i64 1], Cells bx2 31 [.int .i64 9, .int .i64 (-1), .int .i64 0]]) (by intro u; kernel_rfl) (sendN 1 1 0) (by first | exact .inr rfl | exact .inl rfl) (by kernel_rfl) ?_)
 refine SOps.pures 4 (i' := 46) (m' := 9) (e' := [(84, .pointer none), (83, .bool true), (82, .bool true), (81, .bool true), (80, .int .i64 1), (79, .pointer none), (78, .bool true), (77, .bool true), (76, .bool true), (75, .int .i64 2), (74, .pointer (some ⟨qx1, 0, none⟩)), (73, .bool true), (72, .bool true), (71, .bool true), (70, .bool false), (69, .bool true), (68, .bool true), (67, .bool true), (66, .agg #[.int .i64 14, .int .i64 3, .int .i64 1]), (65, .agg #[.int .i64 14, .int .i64 3, .int .i64 1]), (64, .bool true), (63, .bool true), (62, .bool true), (61, .bool true), (60, .bool true), (59, .bool true), (58, .int .i64 9), (57, .pointer (some ⟨bx2, 0, none⟩)), (56, .bool true), (55, .bool true), (54, .bool true), (53, .bool true), (52, .bool true), (51, .bool true), (50, .bool false), (49, .bool true), (48, .bool true), (47, .bool true), (46, .int .i64 0), (45, .bool true), (44, .bool true), (43, .bool true), (42, .int .i64 0), (41, .bool true), (40, .bool true), (39, .int .i64 0), (1, .pointer (some ⟨qx1, 0, none⟩)), (2, .int .i64 0), (3, .int .i64 0), (4, .int .i64 0), (5, .bool false), (6, .pointer (some ⟨bx2, 0, none⟩)), (7, .bool true), (8, .pointer (some ⟨bx3, 0, none⟩)), (9, .bool true), (11, .bool false), (12, .pointer none)]) (by intro u; kernel_rfl) ?_
 refine SOps.o (Op.callS 85 6 #[.pointer none] (.bool false) [] (B := []) (D := [QuC qx1 ([]) w0, Cells bx4 31 [.int .i64 0, .int .i64 0, .int .i64 0], Cells bx3 31 [.int .i64 14, .int .i64 3, .int .i64 1], Cells bx2 31 [.int .i64 9, .int .i64 (-1), .int .i64 0]]) (by intro u; kernel_rfl) (readyN ) (by first | exact .inr rfl | exact .inl rfl) (by kernel_rfl) ?_)
 refine SOps.pures 4 (i' := 51) (m' := 4) (e' := [(89, .pointer none), (88, .bool true), (87, .bool true), (86, .bool true), (85, .bool false), (84, .pointer none), (83, .bool true), (82, .bool true), (81, .bool true), (80, .int .i64 1), (79, .pointer none), (78, .bool true), (77, .bool true), (76, .bool true), (75, .int .i64 2), (74, .pointer (some ⟨qx1, 0, none⟩)), (73, .bool true), (72, .bool true), (71, .bool true), (70, .bool false), (69, .bool true), (68, .bool true), (67, .bool true), (66, .agg #[.int .i64 14, .int .i64 3, .int .i64 1]), (65, .agg #[.int .i64 14, .int .i64 3, .int .i64 1]), (64, .bool true), (63, .bool true), (62, .bool true), (61, .bool true), (60, .bool true), (59, .bool true), (58, .int .i64 9), (57, .pointer (some ⟨bx2, 0, none⟩)), (56, .bool true), (55, .bool true), (54, .bool true), (53, .bool true), (52, .bool true), (51, .bool true), (50, .bool false), (49, .bool true), (48, .bool true), (47, .bool true), (46, .int .i64 0), (45, .bool true), (44, .bool true), (43, .bool true), (42, .int .i64 0), (41, .bool true), (40, .bool true), (39, .int .i64 0), (1, .pointer (some ⟨qx1, 0, none⟩)), (2, .int .i64 0), (3, .int .i64 0), (4, .int .i64 0), (5, .bool false), (6, .pointer (some ⟨bx2, 0, none⟩)), (7, .bool true), (8, .pointer (some ⟨bx3, 0, none⟩)), (9, .bool true), (11, .bool false), (12, .pointer none)]) (by intro u; kernel_rfl) ?_
 refine SOps.o (Op.callS 90 10 #[.pointer none, .int .i64 1] (.int .i64 0) [] (B := []) (D := [QuC qx1 ([]) w0, Cells bx4 31 [.int .i64 0, .int .i64 0, .int .i64 0], Cells bx3 31 [.int .i64 14, .int .i64 3, .int .i64 1], Cells bx2 31 [.int .i64 9, .int .i64 (-1), .int .i64 0]]) (by intro u; kernel_rfl) (dropN 1) (by first | exact .inr rfl | exact .inl rfl) (by kernel_rfl) ?_)
 refine SOps.pures 3 (i' := 55) (m' := 0) (e' := [(0, .bool true), (92, .bool true), (91, .bool true), (90, .int .i64 0), (89, .pointer none), (88, .bool true), (87, .bool true), (86, .bool true), (85, .bool false), (84, .pointer none), (83, .bool true), (82, .bool true), (81, .bool true), (80, .int .i64 1), (79, .pointer none), (78, .bool true), (77, .bool true), (76, .bool true), (75, .int .i64 2), (74, .pointer (some ⟨qx1, 0, none⟩)), (73, .bool true), (72, .bool true), (71, .bool true), (70, .bool false), (69, .bool true), (68, .bool true), (67, .bool true), (66, .agg #[.int .i64 14, .int .i64 3, .int .i64 1]), (65, .agg #[.int .i64 14, .int .i64 3, .int .i64 1]), (64, .bool true), (63, .bool true), (62, .bool true), (61, .bool true), (60, .bool true), (59, .bool true), (58, .int .i64 9), (57, .pointer (some ⟨bx2, 0, none⟩)), (56, .bool true), (55, .bool true), (54, .bool true), (53, .bool true), (52, .bool true), (51, .bool true), (50, .bool false), (49, .bool true), (48, .bool true), (47, .bool true), (46, .int .i64 0), (45, .bool true), (44, .bool true), (43, .bool true), (42, .int .i64 0), (41, .bool true), (40, .bool true), (39, .int .i64 0), (1, .pointer (some ⟨qx1, 0, none⟩)), (2, .int .i64 0), (3, .int .i64 0), (4, .int .i64 0), (5, .bool false), (6, .pointer (some ⟨bx2, 0, none⟩)), (7, .bool true), (8, .pointer (some ⟨bx3, 0, none⟩)), (9, .bool true), (11, .bool false), (12, .pointer none)]) (by intro u; kernel_rfl) ?_
 refine SOps.nil (.inl rfl) ?_
 refine At.pick [0] (e' := [(0, .bool true)]) (by kernel_rfl) ?_
 refine At.ret1 (fn := Try.f4) (v := .bool true) (t := 0) (by kernel_rfl) Try.func4 (by kernel_rfl) (by kernel_rfl) (fun F w ho => ?_)
 exact shutV rfl [] rfl ho
end Go.Proofs.Sg
