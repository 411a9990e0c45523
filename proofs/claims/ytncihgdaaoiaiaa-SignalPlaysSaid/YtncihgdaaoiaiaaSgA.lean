/- Signals: what asks of one, a row cloned, one out. -/
import Derived.Test.YtncihgdaaoiaiaaSgM
import Derived.Test.YtncihgdaaoiaiaaProg
namespace Go.Proofs.Sg
open Go Go.Sp Go.Sg
set_option linter.unusedVariables false
set_option linter.unusedSimpArgs false
set_option linter.unnecessarySimpa false
set_option maxRecDepth 100000
theorem el_26 : ElemT Try.prog 26 31 3 24 [.int .i64 0, .int .i64 0, .int .i64 0] := ⟨by kernel_rfl, _, _, (by kernel_rfl : _ = some Try.t31), (by kernel_rfl : _ = some (.agg #[.int .i64 0, .int .i64 0, .int .i64 0])), by kernel_rfl, by kernel_rfl, rfl, rfl, by decide⟩
noncomputable def bd13 : Code := (Try.f13.body).getD .skip
noncomputable def kt13_0 : List Item := .code (pick [1] bd13) :: []
noncomputable def pt13_0 : List Item := .code (pick [0] bd13) :: kt13_0
noncomputable def opt13_0 : Array Oper := opsOf (pick [0] bd13)
noncomputable def kt13_1 : List Item := .code (pick [1, 1] bd13) :: []
noncomputable def pt13_1 : List Item := .code (pick [1, 0] bd13) :: kt13_1
noncomputable def opt13_1 : Array Oper := opsOf (pick [1, 0] bd13)
noncomputable def pt13_2 : List Item := .code (pick [1, 1] bd13) :: []
theorem rightF (no : Int) : Ctr Try.prog 13 #[.int .i64 no] [] (fun v' => star (fact (v' = .bool (rightN no)) :: [])) false := by
 refine spec_of_at (fn := Try.f13) (c := bd13) (args := [.int .i64 no]) (n := 9) (e := [(0, .int .i64 no)]) (k := pt13_0) Try.func13 (by kernel_rfl) (by kernel_rfl) (by kernel_rfl) (by kernel_rfl) 300 (by kernel_rfl) ?_
 refine At.region (ops := opt13_0) (m := 1) (k' := kt13_0) (by kernel_rfl) 300 (k'' := pt13_1) (by kernel_rfl) ?_
 refine SOps.pures 1 (i' := 1) (m' := 0) (e' := [(2, .bool false), (0, .int .i64 no)]) (by intro u; kernel_rfl) ?_
 refine SOps.nil (.inl rfl) ?_
 refine At.pick [0] (e' := [(0, .int .i64 no)]) (by kernel_rfl) ?_
 refine At.region (ops := opt13_1) (m := 7) (k' := kt13_1) (by kernel_rfl) 300 (k'' := pt13_2) (by kernel_rfl) ?_
 refine SOps.pures 3 (i' := 3) (m' := 4) (e' := [(5, .bool (decide (no ≥ 1))), (4, .bool (decide (no ≥ 1))), (3, .int .i64 no), (0, .int .i64 no)]) (by intro u; kernel_rfl) ?_
 refine SOps.split (fun zq => [(5, .bool zq), (4, .bool zq), (3, .int .i64 no), (0, .int .i64 no)]) (decide (no ≥ 1)) (fun hx1 => ?_) (fun hx1 => ?_)
 ·have hx1 : no ≥ 1 := by simpa using hx1
  refine SOps.pures 4 (i' := 7) (m' := 0) (e' := [(2, .bool (decide (no ≤ 63))), (8, .bool (decide (no ≤ 63))), (7, .bool (decide (no ≤ 63))), (6, .int .i64 no), (5, .bool true), (4, .bool true), (3, .int .i64 no), (0, .int .i64 no)]) (by intro u; kernel_rfl) ?_
  refine SOps.nil (.inl rfl) ?_
  refine At.pick [2] (e' := [(2, .bool (decide (no ≤ 63)))]) (by kernel_rfl) ?_
  refine At.ret1 (fn := Try.f13) (v := .bool (decide (no ≤ 63))) (t := 2) (by kernel_rfl) Try.func13 (by kernel_rfl) (by kernel_rfl) (fun F w ho => ?_)
  exact shutV (by congr 1; unfold rightN; rw [Bool.eq_iff_iff]; simp only [decide_eq_true_eq, Bool.false_eq_true, false_iff]; omega) [] rfl ho
 ·have hx1 : no < 1 := by simpa using hx1
  refine SOps.pures 4 (i' := 7) (m' := 0) (e' := [(2, .bool false), (8, .bool false), (7, .tuple #[]), (6, .tuple #[]), (5, .bool false), (4, .bool false), (3, .int .i64 no), (0, .int .i64 no)]) (by intro u; kernel_rfl) ?_
  refine SOps.nil (.inl rfl) ?_
  refine At.pick [2] (e' := [(2, .bool false)]) (by kernel_rfl) ?_
  refine At.ret1 (fn := Try.f13) (v := .bool false) (t := 2) (by kernel_rfl) Try.func13 (by kernel_rfl) (by kernel_rfl) (fun F w ho => ?_)
  exact shutV (by congr 1; unfold rightN; rw [Bool.eq_iff_iff]; simp only [decide_eq_true_eq, Bool.false_eq_true, false_iff]; omega) [] rfl ho
noncomputable def bd14 : Code := (Try.f14.body).getD .skip
noncomputable def kt14_0 : List Item := .code (pick [1] bd14) :: []
noncomputable def pt14_0 : List Item := .code (pick [0] bd14) :: kt14_0
noncomputable def opt14_0 : Array Oper := opsOf (pick [0] bd14)
noncomputable def kt14_1 : List Item := .code (pick [1, 1] bd14) :: []
noncomputable def pt14_1 : List Item := .code (pick [1, 0] bd14) :: kt14_1
noncomputable def opt14_1 : Array Oper := opsOf (pick [1, 0] bd14)
noncomputable def pt14_2 : List Item := .code (pick [1, 1] bd14) :: []
theorem overF (x : Int) : Ctr Try.prog 14 #[.int .i64 x] [] (fun v' => star (fact (v' = .int .i64 (overI x)) :: [])) false := by
 refine spec_of_at (fn := Try.f14) (c := bd14) (args := [.int .i64 x]) (n := 6) (e := [(0, .int .i64 x)]) (k := pt14_0) Try.func14 (by kernel_rfl) (by kernel_rfl) (by kernel_rfl) (by kernel_rfl) 300 (by kernel_rfl) ?_
 refine At.region (ops := opt14_0) (m := 1) (k' := kt14_0) (by kernel_rfl) 300 (k'' := pt14_1) (by kernel_rfl) ?_
 refine SOps.pures 1 (i' := 1) (m' := 0) (e' := [(2, .int .i64 0), (0, .int .i64 x)]) (by intro u; kernel_rfl) ?_
 refine SOps.nil (.inl rfl) ?_
 refine At.pick [0] (e' := [(0, .int .i64 x)]) (by kernel_rfl) ?_
 refine At.region (ops := opt14_1) (m := 4) (k' := kt14_1) (by kernel_rfl) 300 (k'' := pt14_2) (by kernel_rfl) ?_
 refine SOps.pures 1 (i' := 1) (m' := 3) (e' := [(3, .int .i64 x), (0, .int .i64 x)]) (by intro u; kernel_rfl) ?_
 refine SOps.v (Val.pe 4 (.int .i64 (if x < 0 then 0 else x)) (.int .i64 (max x 0)) (by intro u; kernel_rfl) (int_max _ _ _)) ?_
 refine SOps.v (Val.pe 5 (.int .i64 (if 2147483647 < (max x 0) then 2147483647 else (max x 0))) (.int .i64 (min (max x 0) 2147483647)) (by intro u; kernel_rfl) (int_min _ _ _)) ?_
 refine SOps.pures 1 (i' := 4) (m' := 0) (e' := [(2, .int .i64 (min (max x 0) 2147483647)), (5, .int .i64 (min (max x 0) 2147483647)), (4, .int .i64 (max x 0)), (3, .int .i64 x), (0, .int .i64 x)]) (by intro u; kernel_rfl) ?_
 refine SOps.nil (.inl rfl) ?_
 refine At.pick [2] (e' := [(2, .int .i64 (min (max x 0) 2147483647))]) (by kernel_rfl) ?_
 refine At.ret1 (fn := Try.f14) (v := .int .i64 (min (max x 0) 2147483647)) (t := 2) (by kernel_rfl) Try.func14 (by kernel_rfl) (by kernel_rfl) (fun F w ho => ?_)
 exact shutV (rfl) [] rfl ho
noncomputable def bd16 : Code := (Try.f16.body).getD .skip
noncomputable def kt16_0 : List Item := .code (pick [1] bd16) :: []
noncomputable def pt16_0 : List Item := .code (pick [0] bd16) :: kt16_0
noncomputable def opt16_0 : Array Oper := opsOf (pick [0] bd16)
noncomputable def kt16_1 : List Item := .code (pick [1, 1] bd16) :: []
noncomputable def pt16_1 : List Item := .code (pick [1, 0] bd16) :: kt16_1
noncomputable def opt16_1 : Array Oper := opsOf (pick [1, 0] bd16)
noncomputable def pt16_2 : List Item := .code (pick [1, 1] bd16) :: []
theorem sendF (x : Sig) (no tm : Int) (pn pt : Nat) : Ctr Try.prog 16 #[.agg #[.int .i64 x.no, .int .i64 x.timer, .int .i64 x.over], .pointer (some ⟨pn, 0, none⟩), .pointer (some ⟨pt, 0, none⟩)] [Cells pn 3 [.int .i64 no], Cells pt 3 [.int .i64 tm]] (fun v' => star (fact (v' = .bool (decide (x.no = no) && decide (x.timer = tm))) :: [Cells pn 3 [.int .i64 no], Cells pt 3 [.int .i64 tm]])) false := by
 refine spec_of_at (fn := Try.f16) (c := bd16) (args := [.agg #[.int .i64 x.no, .int .i64 x.timer, .int .i64 x.over], .pointer (some ⟨pn, 0, none⟩), .pointer (some ⟨pt, 0, none⟩)]) (n := 15) (e := [(0, .agg #[.int .i64 x.no, .int .i64 x.timer, .int .i64 x.over]), (1, .pointer (some ⟨pn, 0, none⟩)), (2, .pointer (some ⟨pt, 0, none⟩))]) (k := pt16_0) Try.func16 (by kernel_rfl) (by kernel_rfl) (by kernel_rfl) (by kernel_rfl) 300 (by kernel_rfl) ?_
 refine At.region (ops := opt16_0) (m := 2) (k' := kt16_0) (by kernel_rfl) 300 (k'' := pt16_1) (by kernel_rfl) ?_
 refine SOps.o (Op.new 3 31 [.int .i64 x.no, .int .i64 x.timer, .int .i64 x.over] (fun b => .pointer (some ⟨b, 0, none⟩)) (by intro u b; kernel_rfl) ?_)
 intro bx1
 refine SOps.pures 1 (i' := 2) (m' := 0) (e' := [(4, .bool false), (3, .pointer (some ⟨bx1, 0, none⟩)), (0, .agg #[.int .i64 x.no, .int .i64 x.timer, .int .i64 x.over]), (1, .pointer (some ⟨pn, 0, none⟩)), (2, .pointer (some ⟨pt, 0, none⟩))]) (by intro u; kernel_rfl) ?_
 refine SOps.nil (.inl rfl) ?_
 refine At.pick [1, 2, 3] (e' := [(1, .pointer (some ⟨pn, 0, none⟩)), (2, .pointer (some ⟨pt, 0, none⟩)), (3, .pointer (some ⟨bx1, 0, none⟩))]) (by kernel_rfl) ?_
 refine At.region (ops := opt16_1) (m := 11) (k' := kt16_1) (by kernel_rfl) 300 (k'' := pt16_2) (by kernel_rfl) ?_
 refine SOps.pures 1 (i' := 1) (m' := 10) (e' := [(5, .pointer (some ⟨bx1, 0, none⟩)), (1, .pointer (some ⟨pn, 0, none⟩)), (2, .pointer (some ⟨pt, 0, none⟩)), (3, .pointer (some ⟨bx1, 0, none⟩))]) (by intro u; kernel_rfl) ?_
 refine SOps.v (Val.ld1 0 6 3 bx1 0 (.int .i64 x.no) rfl (by intro u; kernel_rfl) (by kernel_rfl) (Rd.cells rfl)) ?_
 refine SOps.v (Val.ld1 1 7 3 pn 0 (.int .i64 no) rfl (by intro u; kernel_rfl) (by kernel_rfl) (Rd.cells rfl)) ?_
 refine SOps.pures 2 (i' := 5) (m' := 6) (e' := [(9, .bool (x.no == no)), (8, .bool (x.no == no)), (7, .int .i64 no), (6, .int .i64 x.no), (5, .pointer (some ⟨bx1, 0, none⟩)), (1, .pointer (some ⟨pn, 0, none⟩)), (2, .pointer (some ⟨pt, 0, none⟩)), (3, .pointer (some ⟨bx1, 0, none⟩))]) (by intro u; kernel_rfl) ?_
 refine SOps.split (fun zq => [(9, .bool zq), (8, .bool zq), (7, .int .i64 no), (6, .int .i64 x.no), (5, .pointer (some ⟨bx1, 0, none⟩)), (1, .pointer (some ⟨pn, 0, none⟩)), (2, .pointer (some ⟨pt, 0, none⟩)), (3, .pointer (some ⟨bx1, 0, none⟩))]) ((x.no == no)) (fun hx2 => ?_) (fun hx2 => ?_)
 ·have hx2 : x.no = no := by simpa using hx2
  refine SOps.pures 1 (i' := 6) (m' := 5) (e' := [(10, .pointer (some ⟨bx1, 1, none⟩)), (9, .bool true), (8, .bool true), (7, .int .i64 no), (6, .int .i64 x.no), (5, .pointer (some ⟨bx1, 0, none⟩)), (1, .pointer (some ⟨pn, 0, none⟩)), (2, .pointer (some ⟨pt, 0, none⟩)), (3, .pointer (some ⟨bx1, 0, none⟩))]) (by intro u; kernel_rfl) ?_
  refine SOps.v (Val.ld1 0 11 3 bx1 1 (.int .i64 x.timer) rfl (by intro u; kernel_rfl) (by kernel_rfl) (Rd.cells rfl)) ?_
  refine SOps.v (Val.ld1 2 12 3 pt 0 (.int .i64 tm) rfl (by intro u; kernel_rfl) (by kernel_rfl) (Rd.cells rfl)) ?_
  refine SOps.pures 3 (i' := 11) (m' := 0) (e' := [(4, .bool (x.timer == tm)), (14, .bool (x.timer == tm)), (13, .bool (x.timer == tm)), (12, .int .i64 tm), (11, .int .i64 x.timer), (10, .pointer (some ⟨bx1, 1, none⟩)), (9, .bool true), (8, .bool true), (7, .int .i64 no), (6, .int .i64 x.no), (5, .pointer (some ⟨bx1, 0, none⟩)), (1, .pointer (some ⟨pn, 0, none⟩)), (2, .pointer (some ⟨pt, 0, none⟩)), (3, .pointer (some ⟨bx1, 0, none⟩))]) (by intro u; kernel_rfl) ?_
  refine SOps.nil (.inl rfl) ?_
  refine At.pick [4] (e' := [(4, .bool (x.timer == tm))]) (by kernel_rfl) ?_
  refine At.ret1 (fn := Try.f16) (v := .bool (x.timer == tm)) (t := 4) (by kernel_rfl) Try.func16 (by kernel_rfl) (by kernel_rfl) (fun F w ho => ?_)
  exact shutV (by first | (simp [*]; done) | (simp [*]; rfl)) [1, 1] rfl ho
 ·have hx2 : x.no ≠ no := by simpa using hx2
  refine SOps.pures 6 (i' := 11) (m' := 0) (e' := [(4, .bool false), (14, .bool false), (13, .tuple #[]), (12, .tuple #[]), (11, .tuple #[]), (10, .tuple #[]), (9, .bool false), (8, .bool false), (7, .int .i64 no), (6, .int .i64 x.no), (5, .pointer (some ⟨bx1, 0, none⟩)), (1, .pointer (some ⟨pn, 0, none⟩)), (2, .pointer (some ⟨pt, 0, none⟩)), (3, .pointer (some ⟨bx1, 0, none⟩))]) (by intro u; kernel_rfl) ?_
  refine SOps.nil (.inl rfl) ?_
  refine At.pick [4] (e' := [(4, .bool false)]) (by kernel_rfl) ?_
  refine At.ret1 (fn := Try.f16) (v := .bool false) (t := 4) (by kernel_rfl) Try.func16 (by kernel_rfl) (by kernel_rfl) (fun F w ho => ?_)
  exact shutV (by first | (simp [*]; done) | (simp [*]; rfl)) [1, 1] rfl ho
noncomputable def bd19 : Code := (Try.f19.body).getD .skip
noncomputable def kt19_0 : List Item := .code (pick [1] bd19) :: []
noncomputable def pt19_0 : List Item := .code (pick [0] bd19) :: kt19_0
noncomputable def opt19_0 : Array Oper := opsOf (pick [0] bd19)
noncomputable def kt19_1 : List Item := .code (pick [1, 1] bd19) :: []
noncomputable def pt19_1 : List Item := .code (pick [1, 0] bd19) :: kt19_1
noncomputable def opt19_1 : Array Oper := opsOf (pick [1, 0] bd19)
noncomputable def pt19_2 : List Item := .code (pick [1, 1] bd19) :: []
theorem dropF (x : Sig) (tm : Int) (pt : Nat) : Ctr Try.prog 19 #[.agg #[.int .i64 x.no, .int .i64 x.timer, .int .i64 x.over], .pointer (some ⟨pt, 0, none⟩)] [Cells pt 3 [.int .i64 tm]] (fun v' => star (fact (v' = .bool (decide (x.timer = tm))) :: [Cells pt 3 [.int .i64 tm]])) false := by
 refine spec_of_at (fn := Try.f19) (c := bd19) (args := [.agg #[.int .i64 x.no, .int .i64 x.timer, .int .i64 x.over], .pointer (some ⟨pt, 0, none⟩)]) (n := 8) (e := [(0, .agg #[.int .i64 x.no, .int .i64 x.timer, .int .i64 x.over]), (1, .pointer (some ⟨pt, 0, none⟩))]) (k := pt19_0) Try.func19 (by kernel_rfl) (by kernel_rfl) (by kernel_rfl) (by kernel_rfl) 300 (by kernel_rfl) ?_
 refine At.region (ops := opt19_0) (m := 2) (k' := kt19_0) (by kernel_rfl) 300 (k'' := pt19_1) (by kernel_rfl) ?_
 refine SOps.o (Op.new 2 31 [.int .i64 x.no, .int .i64 x.timer, .int .i64 x.over] (fun b => .pointer (some ⟨b, 0, none⟩)) (by intro u b; kernel_rfl) ?_)
 intro bx1
 refine SOps.pures 1 (i' := 2) (m' := 0) (e' := [(3, .bool false), (2, .pointer (some ⟨bx1, 0, none⟩)), (0, .agg #[.int .i64 x.no, .int .i64 x.timer, .int .i64 x.over]), (1, .pointer (some ⟨pt, 0, none⟩))]) (by intro u; kernel_rfl) ?_
 refine SOps.nil (.inl rfl) ?_
 refine At.pick [1, 2] (e' := [(1, .pointer (some ⟨pt, 0, none⟩)), (2, .pointer (some ⟨bx1, 0, none⟩))]) (by kernel_rfl) ?_
 refine At.region (ops := opt19_1) (m := 5) (k' := kt19_1) (by kernel_rfl) 300 (k'' := pt19_2) (by kernel_rfl) ?_
 refine SOps.pures 1 (i' := 1) (m' := 4) (e' := [(4, .pointer (some ⟨bx1, 1, none⟩)), (1, .pointer (some ⟨pt, 0, none⟩)), (2, .pointer (some ⟨bx1, 0, none⟩))]) (by intro u; kernel_rfl) ?_
 refine SOps.v (Val.ld1 0 5 3 bx1 1 (.int .i64 x.timer) rfl (by intro u; kernel_rfl) (by kernel_rfl) (Rd.cells rfl)) ?_
 refine SOps.v (Val.ld1 1 6 3 pt 0 (.int .i64 tm) rfl (by intro u; kernel_rfl) (by kernel_rfl) (Rd.cells rfl)) ?_
 refine SOps.pures 2 (i' := 5) (m' := 0) (e' := [(3, .bool (x.timer == tm)), (7, .bool (x.timer == tm)), (6, .int .i64 tm), (5, .int .i64 x.timer), (4, .pointer (some ⟨bx1, 1, none⟩)), (1, .pointer (some ⟨pt, 0, none⟩)), (2, .pointer (some ⟨bx1, 0, none⟩))]) (by intro u; kernel_rfl) ?_
 refine SOps.nil (.inl rfl) ?_
 refine At.pick [3] (e' := [(3, .bool (x.timer == tm))]) (by kernel_rfl) ?_
 refine At.ret1 (fn := Try.f19) (v := .bool (x.timer == tm)) (t := 3) (by kernel_rfl) Try.func19 (by kernel_rfl) (by kernel_rfl) (fun F w ho => ?_)
 exact shutV (rfl) [1] rfl ho
noncomputable def bd21 : Code := (Try.f21.body).getD .skip
noncomputable def kt21_0 : List Item := .code (pick [1] bd21) :: []
noncomputable def pt21_0 : List Item := .code (pick [0] bd21) :: kt21_0
noncomputable def opt21_0 : Array Oper := opsOf (pick [0] bd21)
noncomputable def kt21_1 : List Item := .code (pick [1, 1] bd21) :: []
noncomputable def pt21_1 : List Item := .code (pick [1, 0] bd21) :: kt21_1
noncomputable def opt21_1 : Array Oper := opsOf (pick [1, 0] bd21)
noncomputable def pt21_2 : List Item := .code (pick [1, 1] bd21) :: []
theorem openF (x : Sig) (pc q n cap : Nat) (S : Option Addr) (bv : BitVec 64) (hx : 1 ≤ x.no ∧ x.no ≤ 63) : Ctr Try.prog 21 #[.agg #[.int .i64 x.no, .int .i64 x.timer, .int .i64 x.over], .pointer (some ⟨pc, 0, none⟩)] [Cells pc 24 [.pointer (some ⟨q, 0, none⟩)], Cells q 42 [.slice S n cap, .int .u64 (bv.toNat : Int)]] (fun v' => star (fact (v' = .bool (openB bv x.no)) :: [Cells pc 24 [.pointer (some ⟨q, 0, none⟩)], Cells q 42 [.slice S n cap, .int .u64 (bv.toNat : Int)]])) false := by
 have hbv := bv.isLt
 refine spec_of_at (fn := Try.f21) (c := bd21) (args := [.agg #[.int .i64 x.no, .int .i64 x.timer, .int .i64 x.over], .pointer (some ⟨pc, 0, none⟩)]) (n := 14) (e := [(0, .agg #[.int .i64 x.no, .int .i64 x.timer, .int .i64 x.over]), (1, .pointer (some ⟨pc, 0, none⟩))]) (k := pt21_0) Try.func21 (by kernel_rfl) (by kernel_rfl) (by kernel_rfl) (by kernel_rfl) 300 (by kernel_rfl) ?_
 refine At.region (ops := opt21_0) (m := 2) (k' := kt21_0) (by kernel_rfl) 300 (k'' := pt21_1) (by kernel_rfl) ?_
 refine SOps.o (Op.new 2 31 [.int .i64 x.no, .int .i64 x.timer, .int .i64 x.over] (fun b => .pointer (some ⟨b, 0, none⟩)) (by intro u b; kernel_rfl) ?_)
 intro bx1
 refine SOps.pures 1 (i' := 2) (m' := 0) (e' := [(3, .bool false), (2, .pointer (some ⟨bx1, 0, none⟩)), (0, .agg #[.int .i64 x.no, .int .i64 x.timer, .int .i64 x.over]), (1, .pointer (some ⟨pc, 0, none⟩))]) (by intro u; kernel_rfl) ?_
 refine SOps.nil (.inl rfl) ?_
 refine At.pick [1, 2] (e' := [(1, .pointer (some ⟨pc, 0, none⟩)), (2, .pointer (some ⟨bx1, 0, none⟩))]) (by kernel_rfl) ?_
 refine At.regionQ (ops := opt21_1) (m := 11) (k' := kt21_1) (by kernel_rfl) 300 (k'' := pt21_2) (by kernel_rfl) (by kernel_rfl) (by kernel_rfl) ?_
 refine SOps.v (Val.ld1 1 4 24 pc 0 (.pointer (some ⟨q, 0, none⟩)) rfl (by intro u; kernel_rfl) (by kernel_rfl) (Rd.cells rfl)) ?_
 refine SOps.pures 2 (i' := 3) (m' := 8) (e' := [(6, .pointer (some ⟨q, 1, none⟩)), (5, .pointer (some ⟨q, 0, none⟩)), (4, .pointer (some ⟨q, 0, none⟩)), (1, .pointer (some ⟨pc, 0, none⟩)), (2, .pointer (some ⟨bx1, 0, none⟩))]) (by intro u; kernel_rfl) ?_
 refine SOps.v (Val.ld1 2 7 40 q 1 (.int .u64 (bv.toNat : Int)) rfl (by intro u; kernel_rfl) (by kernel_rfl) (Rd.cells rfl)) ?_
 refine SOps.pures 1 (i' := 5) (m' := 6) (e' := [(8, .pointer (some ⟨bx1, 0, none⟩)), (7, .int .u64 (bv.toNat : Int)), (6, .pointer (some ⟨q, 1, none⟩)), (5, .pointer (some ⟨q, 0, none⟩)), (4, .pointer (some ⟨q, 0, none⟩)), (1, .pointer (some ⟨pc, 0, none⟩)), (2, .pointer (some ⟨bx1, 0, none⟩))]) (by intro u; kernel_rfl) ?_
 refine SOps.v (Val.ld1 0 9 3 bx1 0 (.int .i64 x.no) rfl (by intro u; kernel_rfl) (by kernel_rfl) (Rd.cells rfl)) ?_
 refine SOps.v (Val.pe 10 (.int .u64 (IntKind.u64.wrap x.no)) (.int .u64 x.no) (by intro u; kernel_rfl) (u64_in rfl (by omega) (by omega))) ?_
 refine SOps.v (Val.pv 11 (vN (Op.shift .shr .u64 (bv.toNat : Int) .u64 x.no)) (.int .u64 ((bv.toNat : Int) / 2 ^ (x.no).toNat)) (by intro u; kernel_rfl) (shr_var (by omega) (by omega) .u64 .u64 (by decide))) ?_
 have hb := shr_u64 (x := bv) (s := x.no) (by omega) (by omega)
 refine SOps.v (Val.pv 12 (vN (Op.intBits .and .u64 ((bv.toNat : Int) / 2 ^ (x.no).toNat) 1)) (.int .u64 (((bv.toNat : Int) / 2 ^ (x.no).toNat) % 2)) (by intro u; kernel_rfl) (pv_and1u (by omega) (by omega))) ?_
 refine SOps.pures 2 (i' := 11) (m' := 0) (e' := [(3, .bool ((((bv.toNat : Int) / 2 ^ (x.no).toNat) % 2) == 0)), (13, .bool ((((bv.toNat : Int) / 2 ^ (x.no).toNat) % 2) == 0)), (12, .int .u64 (((bv.toNat : Int) / 2 ^ (x.no).toNat) % 2)), (11, .int .u64 ((bv.toNat : Int) / 2 ^ (x.no).toNat)), (10, .int .u64 x.no), (9, .int .i64 x.no), (8, .pointer (some ⟨bx1, 0, none⟩)), (7, .int .u64 (bv.toNat : Int)), (6, .pointer (some ⟨q, 1, none⟩)), (5, .pointer (some ⟨q, 0, none⟩)), (4, .pointer (some ⟨q, 0, none⟩)), (1, .pointer (some ⟨pc, 0, none⟩)), (2, .pointer (some ⟨bx1, 0, none⟩))]) (by intro u; kernel_rfl) ?_
 refine SOps.nil (.inr (by kernel_rfl)) ?_
 refine At.pick [3] (e' := [(3, .bool ((((bv.toNat : Int) / 2 ^ (x.no).toNat) % 2) == 0))]) (by kernel_rfl) ?_
 refine At.ret1 (fn := Try.f21) (v := .bool ((((bv.toNat : Int) / 2 ^ (x.no).toNat) % 2) == 0)) (t := 3) (by kernel_rfl) Try.func21 (by kernel_rfl) (by kernel_rfl) (fun F w ho => ?_)
 exact shutV (rfl) [1, 1] rfl ho
noncomputable def bd20 : Code := (Try.f20.body).getD .skip
noncomputable def kt20_0 : List Item := .code (pick [1] bd20) :: []
noncomputable def pt20_0 : List Item := .code (pick [0] bd20) :: kt20_0
noncomputable def opt20_0 : Array Oper := opsOf (pick [0] bd20)
noncomputable def kt20_1 : List Item := .code (pick [1, 1] bd20) :: []
noncomputable def kt20_2 : List Item := .code (pick [1, 0, 1] bd20) :: kt20_1
noncomputable def pt20_1 : List Item := .code (pick [1, 0, 0] bd20) :: kt20_2
noncomputable def opt20_1 : Array Oper := opsOf (pick [1, 0, 0] bd20)
noncomputable def pt20_2 : List Item := .code (pick [1, 0, 1] bd20) :: kt20_1
noncomputable def kt20_3 : List Item := .code (pick [1, 0, 1, 0, 1] bd20) :: kt20_1
noncomputable def pt20_3 : List Item := .code (pick [1, 0, 1, 0, 0] bd20) :: kt20_3
noncomputable def opt20_3 : Array Oper := opsOf (pick [1, 0, 1, 0, 0] bd20)
noncomputable def kt20_4 : List Item := .code (pick [1, 1, 1] bd20) :: []
noncomputable def pt20_4 : List Item := .code (pick [1, 1, 0] bd20) :: kt20_4
noncomputable def opt20_4 : Array Oper := opsOf (pick [1, 1, 0] bd20)
noncomputable def pt20_5 : List Item := .code (pick [1, 0, 1, 0, 1] bd20) :: kt20_1
noncomputable def pt20_6 : List Item := .code (pick [1, 1, 1] bd20) :: []
theorem cloneG (S : Option Addr) (n cap : Nat) (l : List Sig) (hl : l.length = n) (hn : n ≤ 200) : Ctr Try.prog 20 #[.slice S n cap] [Grow S cap 31 3 n (l.flatMap encG)] (fun v' => ex fun x : Option Addr × Nat => fact (v' = .slice x.1 n x.2) :: fact True :: [Grow x.1 x.2 31 3 n (l.flatMap encG), Grow S cap 31 3 n (l.flatMap encG)]) false := by
 refine spec_of_at (fn := Try.f20) (c := bd20) (args := [.slice S n cap]) (n := 8) (e := [(0, .slice S n cap)]) (k := pt20_0) Try.func20 (by kernel_rfl) (by kernel_rfl) (by kernel_rfl) (by kernel_rfl) 300 (by kernel_rfl) ?_
 refine At.learn (fun F w ho => Grow.cases (j := 0) ho rfl) (fun hS => ?_)
 rcases hS with ⟨rfl, rfl, rfl⟩ | ⟨b, rfl⟩
 ·refine At.region (ops := opt20_0) (m := 1) (k' := kt20_0) (by kernel_rfl) 300 (k'' := pt20_1) (by kernel_rfl) ?_
  refine SOps.pures 1 (i' := 1) (m' := 0) (e' := [(2, .slice none 0 0), (0, .slice none 0 0)]) (by intro u; kernel_rfl) ?_
  refine SOps.nil (.inl rfl) ?_
  refine At.pick [0] (e' := [(0, .slice none 0 0)]) (by kernel_rfl) ?_
  refine At.region (ops := opt20_1) (m := 2) (k' := kt20_2) (by kernel_rfl) 300 (k'' := pt20_2) (by kernel_rfl) ?_
  refine SOps.pures 2 (i' := 2) (m' := 0) (e' := [(4, .bool true), (3, .slice none 0 0), (0, .slice none 0 0)]) (by intro u; kernel_rfl) ?_
  refine SOps.nil (.inl rfl) ?_
  refine At.pick [0, 4] (e' := [(0, .slice none 0 0), (4, .bool true)]) (by kernel_rfl) ?_
  refine At.cond 300 true (c := .tmp 4) (k1 := pt20_3) (k2 := pt20_4) (by kernel_rfl) (by intro u; kernel_rfl) (fun _ => ?_) (fun h => by cases h)
  refine At.pick [] (e' := []) (by kernel_rfl) ?_
  refine At.region (ops := opt20_3) (m := 1) (k' := kt20_3) (by kernel_rfl) 300 (k'' := pt20_5) (by kernel_rfl) ?_
  refine SOps.pures 1 (i' := 1) (m' := 0) (e' := [(2, .slice none 0 0)]) (by intro u; kernel_rfl) ?_
  refine SOps.nil (.inl rfl) ?_
  refine At.ret1 (fn := Try.f20) (v := .slice none 0 0) (t := 2) (by kernel_rfl) Try.func20 (by kernel_rfl) (by kernel_rfl) (fun F w ho => ?_)
  obtain rfl : l = [] := List.eq_nil_of_length_eq_zero hl
  exact shutX (Option.none, 0) rfl trivial [0, 0] rfl (Grow.nil_ 31 3 ho)
 ·refine At.region (ops := opt20_0) (m := 1) (k' := kt20_0) (by kernel_rfl) 300 (k'' := pt20_1) (by kernel_rfl) ?_
  refine SOps.pures 1 (i' := 1) (m' := 0) (e' := [(2, .slice none 0 0), (0, .slice (some ⟨b, 0, none⟩) n cap)]) (by intro u; kernel_rfl) ?_
  refine SOps.nil (.inl rfl) ?_
  refine At.pick [0] (e' := [(0, .slice (some ⟨b, 0, none⟩) n cap)]) (by kernel_rfl) ?_
  refine At.region (ops := opt20_1) (m := 2) (k' := kt20_2) (by kernel_rfl) 300 (k'' := pt20_2) (by kernel_rfl) ?_
  refine SOps.pures 2 (i' := 2) (m' := 0) (e' := [(4, .bool false), (3, .slice (some ⟨b, 0, none⟩) n cap), (0, .slice (some ⟨b, 0, none⟩) n cap)]) (by intro u; kernel_rfl) ?_
  refine SOps.nil (.inl rfl) ?_
  refine At.pick [0, 4] (e' := [(0, .slice (some ⟨b, 0, none⟩) n cap), (4, .bool false)]) (by kernel_rfl) ?_
  refine At.cond 300 false (c := .tmp 4) (k1 := pt20_3) (k2 := pt20_4) (by kernel_rfl) (by intro u; kernel_rfl) (fun h => by cases h) (fun _ => ?_)
  refine At.pick [0] (e' := [(0, .slice (some ⟨b, 0, none⟩) n cap)]) (by kernel_rfl) ?_
  refine At.region (ops := opt20_4) (m := 4) (k' := kt20_4) (by kernel_rfl) 300 (k'' := pt20_6) (by kernel_rfl) ?_
  refine SOps.o (Op.new 5 31 [] (fun b => .slice (some ⟨b, 0, none⟩) 0 0) (by intro u b; kernel_rfl) ?_)
  intro bx1
  refine SOps.pures 1 (i' := 2) (m' := 2) (e' := [(6, .slice (some ⟨b, 0, none⟩) n cap), (5, .slice (some ⟨bx1, 0, none⟩) 0 0), (0, .slice (some ⟨b, 0, none⟩) n cap)]) (by intro u; kernel_rfl) ?_
  refine SOps.conseq1 (A := [Cells bx1 31 [], Grow (some ⟨b, 0, none⟩) cap 31 3 n (l.flatMap encG)]) (A' := [Grow (some ⟨bx1, 0, none⟩) 0 31 3 0 (([]).flatMap encG), Grow (some ⟨b, 0, none⟩) cap 31 3 n (l.flatMap encG)]) (fun F w ho => emptyRow_at (j := 0) (b := bx1) (ty := 31) (sz := 3) (A := [Cells bx1 31 [], Grow (some ⟨b, 0, none⟩) cap 31 3 n (l.flatMap encG)]) rfl rfl ho) ?_
  refine SOps.o (Op.appS 0 1 7 (sz := 3) (bytes := 24) (ty := 26) el_26 (l.flatMap encG) (l.flatMap encG) (n := 0) (q := n) (c := cap) (r := n) (by omega) rfl rfl (by intro u; kernel_rfl) (by rw [flat_len encG 3 (fun _ => rfl)] <;> first | omega | (simp only [List.length_cons, List.length_nil]; done) | (simp only [List.length_append, List.length_take, List.length_drop, List.length_cons, List.length_nil, List.length_set]; omega)) SrcOf.all (flat_one encG (fun _ => rfl) _) (by unfold maxLen; omega) (by omega) (by simp) ?_)
  intro Sx2 cx3
  refine SOps.pures 1 (i' := 4) (m' := 0) (e' := [(2, .slice Sx2 n cx3), (7, .slice Sx2 n cx3), (6, .slice (some ⟨b, 0, none⟩) n cap), (5, .slice (some ⟨bx1, 0, none⟩) 0 0), (0, .slice (some ⟨b, 0, none⟩) n cap)]) (by intro u; kernel_rfl) ?_
  refine SOps.nil (.inl rfl) ?_
  refine At.pick [2] (e' := [(2, .slice Sx2 n cx3)]) (by kernel_rfl) ?_
  refine At.ret1 (fn := Try.f20) (v := .slice Sx2 n cx3) (t := 2) (by kernel_rfl) Try.func20 (by kernel_rfl) (by kernel_rfl) (fun F w ho => ?_)
  exact shutX (p := fun _ => True) (Sx2, cx3) rfl trivial [0, 0] rfl ho
noncomputable def bd17 : Code := (Try.f17.body).getD .skip
noncomputable def kt17_0 : List Item := .code (pick [1] bd17) :: []
noncomputable def pt17_0 : List Item := .code (pick [0] bd17) :: kt17_0
noncomputable def opt17_0 : Array Oper := opsOf (pick [0] bd17)
noncomputable def kt17_1 : List Item := .code (pick [1, 1] bd17) :: []
noncomputable def pt17_1 : List Item := .code (pick [1, 0] bd17) :: kt17_1
noncomputable def opt17_1 : Array Oper := opsOf (pick [1, 0] bd17)
noncomputable def kt17_2 : List Item := .code (pick [1, 1, 1] bd17) :: []
noncomputable def kt17_3 : List Item := .code (pick [1, 1, 0, 1] bd17) :: kt17_2
noncomputable def pt17_2 : List Item := .code (pick [1, 1, 0, 0] bd17) :: kt17_3
noncomputable def opt17_2 : Array Oper := opsOf (pick [1, 1, 0, 0] bd17)
noncomputable def pt17_3 : List Item := .code (pick [1, 1, 0, 1] bd17) :: kt17_2
noncomputable def kt17_4 : List Item := .code (pick [1, 1, 0, 1, 0, 1] bd17) :: kt17_2
noncomputable def pt17_4 : List Item := .code (pick [1, 1, 0, 1, 0, 0] bd17) :: kt17_4
noncomputable def opt17_4 : Array Oper := opsOf (pick [1, 1, 0, 1, 0, 0] bd17)
noncomputable def kt17_5 : List Item := .code (pick [1, 1, 1, 1] bd17) :: []
noncomputable def pt17_5 : List Item := .code (pick [1, 1, 1, 0] bd17) :: kt17_5
noncomputable def opt17_5 : Array Oper := opsOf (pick [1, 1, 1, 0] bd17)
noncomputable def kt17_6 : List Item := .code (pick [1, 1, 1, 1, 1] bd17) :: []
noncomputable def pt17_6 : List Item := .code (pick [1, 1, 1, 1, 0] bd17) :: kt17_6
noncomputable def opt17_6 : Array Oper := opsOf (pick [1, 1, 1, 1, 0] bd17)
noncomputable def kt17_7 : List Item := .code (pick [1, 1, 1, 1, 1, 1] bd17) :: []
noncomputable def pt17_7 : List Item := .code (pick [1, 1, 1, 1, 1, 0] bd17) :: kt17_7
noncomputable def opt17_7 : Array Oper := opsOf (pick [1, 1, 1, 1, 1, 0] bd17)
noncomputable def kt17_8 : List Item := .code (pick [1, 1, 1, 1, 1, 1, 1] bd17) :: []
noncomputable def pt17_8 : List Item := .code (pick [1, 1, 1, 1, 1, 1, 0] bd17) :: kt17_8
noncomputable def opt17_8 : Array Oper := opsOf (pick [1, 1, 1, 1, 1, 1, 0] bd17)
noncomputable def pt17_9 : List Item := .code (pick [1, 1, 1, 1, 1, 1, 1] bd17) :: []
theorem deleteG (S : Option Addr) (n cap : Nat) (l : List Sig) (hl : l.length = n) (hn : n ≤ 200) (k : Nat) (hk : k < n) : Ctr Try.prog 17 #[.slice S n cap, .int .i64 (k : Int), .int .i64 ((k + 1 : Nat) : Int)] [Grow S cap 31 3 n (l.flatMap encG)] (fun v' => star (fact (v' = .slice S (n - 1) cap) :: [Grow S cap 31 3 (n - 1) ((l.eraseIdx k).flatMap encG)])) false := by
 refine spec_of_at (fn := Try.f17) (c := bd17) (args := [.slice S n cap, .int .i64 (k : Int), .int .i64 ((k + 1 : Nat) : Int)]) (n := 33) (e := [(0, .slice S n cap), (1, .int .i64 (k : Int)), (2, .int .i64 ((k + 1 : Nat) : Int))]) (k := pt17_0) Try.func17 (by kernel_rfl) (by kernel_rfl) (by kernel_rfl) (by kernel_rfl) 300 (by kernel_rfl) ?_
 refine At.learn (fun F w ho => Grow.cases (j := 0) ho rfl) (fun hS => ?_)
 rcases hS with ⟨rfl, rfl, rfl⟩ | ⟨b, rfl⟩
 ·omega
 ·refine At.region (ops := opt17_0) (m := 1) (k' := kt17_0) (by kernel_rfl) 300 (k'' := pt17_1) (by kernel_rfl) ?_
  refine SOps.pures 1 (i' := 1) (m' := 0) (e' := [(6, .slice none 0 0), (0, .slice (some ⟨b, 0, none⟩) n cap), (1, .int .i64 (k : Int)), (2, .int .i64 ((k + 1 : Nat) : Int))]) (by intro u; kernel_rfl) ?_
  refine SOps.nil (.inl rfl) ?_
  refine At.pick [0, 1, 2] (e' := [(0, .slice (some ⟨b, 0, none⟩) n cap), (1, .int .i64 (k : Int)), (2, .int .i64 ((k + 1 : Nat) : Int))]) (by kernel_rfl) ?_
  refine At.region (ops := opt17_1) (m := 6) (k' := kt17_1) (by kernel_rfl) 300 (k'' := pt17_2) (by kernel_rfl) ?_
  refine SOps.pures 5 (i' := 5) (m' := 1) (e' := [(12, .int .i64 (n : Int)), (11, .slice (some ⟨b, 0, none⟩) n cap), (10, .int .i64 ((k + 1 : Nat) : Int)), (9, .int .i64 (k : Int)), (8, .slice (some ⟨b, 0, none⟩) n cap), (0, .slice (some ⟨b, 0, none⟩) n cap), (1, .int .i64 (k : Int)), (2, .int .i64 ((k + 1 : Nat) : Int))]) (by intro u; kernel_rfl) ?_
  refine SOps.learn (fun F w ho => Grow.some (j := 0) ho rfl) (fun gx1 => ?_)
  obtain ⟨gx1a, gx1b, gx1c, gx1d⟩ := gx1
  refine SOps.v (Val.pv 13 (vN (Instr.sliceAt 26 (.slice (some ⟨b, 0, none⟩) n cap) (some (.int .i64 (k : Int))) (some (.int .i64 ((k + 1 : Nat) : Int))) (some (.int .i64 (n : Int))))) (.slice (subS (some ⟨b, 0, none⟩) k n 3) ((k + 1) - k) (n - k)) (by intro u; kernel_rfl) (pv_slice3 (el := 31) (sz := 3) (by kernel_rfl) (by kernel_rfl) (by omega) (by omega) (by omega) (by omega) (by omega) (by omega) (by omega) (by omega) (by omega))) ?_
  refine SOps.nil (.inl rfl) ?_
  refine At.pick [0, 1, 2] (e' := [(0, .slice (some ⟨b, 0, none⟩) n cap), (1, .int .i64 (k : Int)), (2, .int .i64 ((k + 1 : Nat) : Int))]) (by kernel_rfl) ?_
  refine At.region (ops := opt17_2) (m := 3) (k' := kt17_3) (by kernel_rfl) 300 (k'' := pt17_3) (by kernel_rfl) ?_
  refine SOps.pures 3 (i' := 3) (m' := 0) (e' := [(16, .bool ((k : Int) == ((k + 1 : Nat) : Int))), (15, .int .i64 ((k + 1 : Nat) : Int)), (14, .int .i64 (k : Int)), (0, .slice (some ⟨b, 0, none⟩) n cap), (1, .int .i64 (k : Int)), (2, .int .i64 ((k + 1 : Nat) : Int))]) (by intro u; kernel_rfl) ?_
  refine SOps.nil (.inl rfl) ?_
  refine At.pick [0, 1, 2, 16] (e' := [(0, .slice (some ⟨b, 0, none⟩) n cap), (1, .int .i64 (k : Int)), (2, .int .i64 ((k + 1 : Nat) : Int)), (16, .bool ((k : Int) == ((k + 1 : Nat) : Int)))]) (by kernel_rfl) ?_
  refine At.split (fun zq => [(0, .slice (some ⟨b, 0, none⟩) n cap), (1, .int .i64 (k : Int)), (2, .int .i64 ((k + 1 : Nat) : Int)), (16, .bool zq)]) (((k : Int) == ((k + 1 : Nat) : Int))) (fun hx2 => ?_) (fun hx2 => ?_)
  ·have hx2 : (k : Int) = ((k + 1 : Nat) : Int) := by simpa using hx2
   exact absurd hx2 (by omega)
  ·have hx2 : (k : Int) ≠ ((k + 1 : Nat) : Int) := by simpa using hx2
   refine At.cond 300 false (c := .tmp 16) (k1 := pt17_4) (k2 := pt17_5) (by kernel_rfl) (by intro u; kernel_rfl) (fun h => by cases h) (fun _ => ?_)
   refine At.pick [0, 1, 2] (e' := [(0, .slice (some ⟨b, 0, none⟩) n cap), (1, .int .i64 (k : Int)), (2, .int .i64 ((k + 1 : Nat) : Int))]) (by kernel_rfl) ?_
   refine At.region (ops := opt17_5) (m := 3) (k' := kt17_5) (by kernel_rfl) 300 (k'' := pt17_6) (by kernel_rfl) ?_
   refine SOps.pures 3 (i' := 3) (m' := 0) (e' := [(7, .int .i64 (n : Int)), (19, .int .i64 (n : Int)), (18, .slice (some ⟨b, 0, none⟩) n cap), (0, .slice (some ⟨b, 0, none⟩) n cap), (1, .int .i64 (k : Int)), (2, .int .i64 ((k + 1 : Nat) : Int))]) (by intro u; kernel_rfl) ?_
   refine SOps.nil (.inl rfl) ?_
   refine At.pick [0, 1, 2, 7] (e' := [(0, .slice (some ⟨b, 0, none⟩) n cap), (1, .int .i64 (k : Int)), (2, .int .i64 ((k + 1 : Nat) : Int)), (7, .int .i64 (n : Int))]) (by kernel_rfl) ?_
   refine At.game [0] 6 (L := #[false, false, false, false, false, false, false, false]) (ops := opt17_6) (m := 8) (k' := kt17_6) (by kernel_rfl) 300 (k'' := pt17_7) (by kernel_rfl) (by kernel_rfl) rfl (H := [Grow (some ⟨b, 0, none⟩) cap 31 3 n (l.flatMap encG)]) (E := []) rfl ?_
   refine GOps.pures [0, 1, 3, 4] (L' := #[true, true, false, true, true, false, false, false]) (m' := 4) (e' := [(24, .int .i64 ((k + 1 : Nat) : Int)), (23, .slice (some ⟨b, 0, none⟩) n cap), (21, .int .i64 (k : Int)), (20, .slice (some ⟨b, 0, none⟩) n cap), (0, .slice (some ⟨b, 0, none⟩) n cap), (1, .int .i64 (k : Int)), (2, .int .i64 ((k + 1 : Nat) : Int)), (7, .int .i64 (n : Int))]) (by kernel_rfl) (by intro u; kernel_rfl) ?_
   refine GOps.v 2 (Val.pv 22 (vN (Instr.sliceAt 26 (.slice (some ⟨b, 0, none⟩) n cap) none (some (.int .i64 (k : Int))) none)) (.slice (some ⟨b, 0, none⟩) k cap) (by intro u; kernel_rfl) (pv_sliceHiO (el := 31) (sz := 3) (by kernel_rfl) (by kernel_rfl) (by omega) (by omega) (by omega))) (by kernel_rfl) (by kernel_rfl) (by kernel_rfl) (by kernel_rfl) (L' := #[true, true, true, true, true, false, false, false]) rfl ?_
   refine GOps.v 5 (Val.pv 25 (vN (Instr.sliceAt 26 (.slice (some ⟨b, 0, none⟩) n cap) (some (.int .i64 ((k + 1 : Nat) : Int))) none none)) (.slice (subS (some ⟨b, 0, none⟩) (k + 1) cap 3) (n - (k + 1)) (cap - (k + 1))) (by intro u; kernel_rfl) (pv_sliceLoO (el := 31) (sz := 3) (by kernel_rfl) (by kernel_rfl) (by omega) (by omega) (by omega))) (by kernel_rfl) (by kernel_rfl) (by kernel_rfl) (by kernel_rfl) (L' := #[true, true, true, true, true, true, false, false]) rfl ?_
   refine GOps.one 6 (by kernel_rfl) (GStep.d (L' := #[true, true, true, true, true, true, true, false]) rfl rfl (Op.appR 0 0 26 (ty := 26) (k := k) (q := n - (k + 1)) (cap := cap) (c2 := cap - (k + 1)) el_26 ((l.drop (k + 1)).flatMap encG) (A' := [Grow (some ⟨b, 0, none⟩) cap 31 3 n ((l.take k ++ (l.drop (k + 1) ++ l.drop (k + (l.drop (k + 1)).length))).flatMap encG)]) (r := n - 1) (by omega) rfl rfl (by intro u; kernel_rfl) (by omega) (by rw [flat_len encG 3 (fun _ => rfl), List.length_drop, hl]) (flat_one encG (fun _ => rfl) _) (SrcOf.suf encG 3 (fun _ => rfl) hl (k + 1) (by omega)) (WrOf.grow k (fun _ => rfl) (by rw [flat_len encG 3 (fun _ => rfl), flat_len encG 3 (fun _ => rfl), List.length_drop]; omega) (flat_lay encG 3 (fun _ => rfl) l (l.drop (k + 1)) k (by rw [List.length_drop]; omega))) rfl ?_))
   refine GOps.pures [7] (L' := #[true, true, true, true, true, true, true, true]) (m' := 0) (e' := [(0, .slice (some ⟨b, 0, none⟩) (n - 1) cap), (26, .slice (some ⟨b, 0, none⟩) (n - 1) cap), (25, .slice (subS (some ⟨b, 0, none⟩) (k + 1) cap 3) (n - (k + 1)) (cap - (k + 1))), (22, .slice (some ⟨b, 0, none⟩) k cap), (24, .int .i64 ((k + 1 : Nat) : Int)), (23, .slice (some ⟨b, 0, none⟩) n cap), (21, .int .i64 (k : Int)), (20, .slice (some ⟨b, 0, none⟩) n cap), (0, .slice (some ⟨b, 0, none⟩) n cap), (1, .int .i64 (k : Int)), (2, .int .i64 ((k + 1 : Nat) : Int)), (7, .int .i64 (n : Int))]) (by kernel_rfl) (by intro u; kernel_rfl) ?_
   refine GOps.nil (by kernel_rfl) ?_
   refine At.pick [0, 7] (e' := [(0, .slice (some ⟨b, 0, none⟩) (n - 1) cap), (7, .int .i64 (n : Int))]) (by kernel_rfl) ?_
   refine At.region (ops := opt17_7) (m := 6) (k' := kt17_7) (by kernel_rfl) 300 (k'' := pt17_8) (by kernel_rfl) ?_
   refine SOps.pures 4 (i' := 4) (m' := 2) (e' := [(30, .int .i64 (n : Int)), (29, .int .i64 (((n - 1) : Nat) : Int)), (28, .slice (some ⟨b, 0, none⟩) (n - 1) cap), (27, .slice (some ⟨b, 0, none⟩) (n - 1) cap), (0, .slice (some ⟨b, 0, none⟩) (n - 1) cap), (7, .int .i64 (n : Int))]) (by intro u; kernel_rfl) ?_
   refine SOps.v (Val.pv 31 (vN (Instr.sliceAt 26 (.slice (some ⟨b, 0, none⟩) (n - 1) cap) (some (.int .i64 (((n - 1) : Nat) : Int))) (some (.int .i64 (n : Int))) none)) (.slice (subS (some ⟨b, 0, none⟩) (n - 1) cap 3) (n - (n - 1)) (cap - (n - 1))) (by intro u; kernel_rfl) (pv_sliceLH (el := 31) (sz := 3) (by kernel_rfl) (by kernel_rfl) (by omega) (by omega) (by omega) (by omega) (by omega) (by omega))) ?_
   refine SOps.o (Op.clearN 0 (ty := 0) (q := n - (n - 1)) (c := cap - (n - 1)) el_26 (A' := [Grow (some ⟨b, 0, none⟩) cap 31 3 n (upd ((l.take k ++ (l.drop (k + 1) ++ l.drop (k + (l.drop (k + 1)).length))).flatMap encG) ((n - 1) * 3) (List.replicate (n - (n - 1)) [.int .i64 0, .int .i64 0, .int .i64 0]).flatten)]) rfl (by intro u; kernel_rfl) rfl (WrOf.sub (n - 1) (by rw [flat_len encG 3 (fun _ => rfl)]; simp; omega) rfl) rfl ?_)
   refine SOps.nil (.inl rfl) ?_
   refine At.pick [0] (e' := [(0, .slice (some ⟨b, 0, none⟩) (n - 1) cap)]) (by kernel_rfl) ?_
   refine At.region (ops := opt17_8) (m := 2) (k' := kt17_8) (by kernel_rfl) 300 (k'' := pt17_9) (by kernel_rfl) ?_
   refine SOps.pures 2 (i' := 2) (m' := 0) (e' := [(6, .slice (some ⟨b, 0, none⟩) (n - 1) cap), (32, .slice (some ⟨b, 0, none⟩) (n - 1) cap), (0, .slice (some ⟨b, 0, none⟩) (n - 1) cap)]) (by intro u; kernel_rfl) ?_
   refine SOps.nil (.inl rfl) ?_
   refine At.pick [6] (e' := [(6, .slice (some ⟨b, 0, none⟩) (n - 1) cap)]) (by kernel_rfl) ?_
   refine At.ret1 (fn := Try.f17) (v := .slice (some ⟨b, 0, none⟩) (n - 1) cap) (t := 6) (by kernel_rfl) Try.func17 (by kernel_rfl) (by kernel_rfl) (fun F w ho => ?_)
   have ho' := Grow.cut_at (j := 0) (n - 1) (by omega) (del_cut encG 3 (fun _ => rfl) l hl hk (by rw [show n - (n - 1) = 1 by omega]; rfl)) rfl ho
   exact shutS [0] rfl ho'
end Go.Proofs.Sg
