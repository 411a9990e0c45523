/- Signals: one sent. -/
import Derived.Test.YtncihgdaaoiaiaaSgC
namespace Go.Proofs.Sg
open Go Go.Sp Go.Sg
set_option linter.unusedVariables false
set_option linter.unusedSimpArgs false
set_option linter.unnecessarySimpa false
set_option maxRecDepth 100000
noncomputable def bd7 : Code := (Try.f7.body).getD .skip
noncomputable def kt7_0 : List Item := .code (pick [1] bd7) :: []
noncomputable def pt7_0 : List Item := .code (pick [0] bd7) :: kt7_0
noncomputable def opt7_0 : Array Oper := opsOf (pick [0] bd7)
noncomputable def kt7_1 : List Item := .code (pick [1, 1] bd7) :: []
noncomputable def kt7_2 : List Item := .inBlock 0 :: kt7_1
noncomputable def kt7_3 : List Item := .code (pick [1, 0, 0, 1] bd7) :: kt7_2
noncomputable def pt7_1 : List Item := .code (pick [1, 0, 0, 0] bd7) :: kt7_3
noncomputable def opt7_1 : Array Oper := opsOf (pick [1, 0, 0, 0] bd7)
noncomputable def pt7_2 : List Item := .code (pick [1, 0, 0, 1] bd7) :: kt7_2
noncomputable def kt7_4 : List Item := .code (pick [1, 0, 0, 1, 0, 1] bd7) :: kt7_2
noncomputable def pt7_3 : List Item := .code (pick [1, 0, 0, 1, 0, 0] bd7) :: kt7_4
noncomputable def opt7_3 : Array Oper := opsOf (pick [1, 0, 0, 1, 0, 0] bd7)
noncomputable def kt7_5 : List Item := .code (pick [1, 0, 0, 1, 1, 1] bd7) :: kt7_2
noncomputable def pt7_4 : List Item := .code (pick [1, 0, 0, 1, 1, 0] bd7) :: kt7_5
noncomputable def opt7_4 : Array Oper := opsOf (pick [1, 0, 0, 1, 1, 0] bd7)
noncomputable def pt7_5 : List Item := .code (pick [1, 0, 0, 1, 1, 1] bd7) :: kt7_2
noncomputable def kt7_6 : List Item := .code (pick [1, 0, 0, 1, 1, 1, 0, 1] bd7) :: kt7_2
noncomputable def pt7_6 : List Item := .code (pick [1, 0, 0, 1, 1, 1, 0, 0] bd7) :: kt7_6
noncomputable def opt7_6 : Array Oper := opsOf (pick [1, 0, 0, 1, 1, 1, 0, 0] bd7)
noncomputable def kt7_7 : List Item := .code (pick [1, 1, 1] bd7) :: []
noncomputable def pt7_7 : List Item := .code (pick [1, 1, 0] bd7) :: kt7_7
noncomputable def opt7_7 : Array Oper := opsOf (pick [1, 1, 0] bd7)
noncomputable def pt7_8 : List Item := .code (pick [1, 0, 0, 1, 1, 1, 0, 1] bd7) :: kt7_2
noncomputable def kt7_8 : List Item := .code (pick [1, 1, 1, 1] bd7) :: []
noncomputable def pt7_9 : List Item := .code (pick [1, 1, 1, 0] bd7) :: kt7_8
noncomputable def opt7_9 : Array Oper := opsOf (pick [1, 1, 1, 0] bd7)
noncomputable def kt7_9 : List Item := .code (pick [1, 1, 1, 1, 1] bd7) :: []
noncomputable def kt7_10 : List Item := .inBlock 1 :: kt7_9
noncomputable def kt7_11 : List Item := .code (pick [1, 1, 1, 1, 0, 0, 1] bd7) :: kt7_10
noncomputable def pt7_10 : List Item := .code (pick [1, 1, 1, 1, 0, 0, 0] bd7) :: kt7_11
noncomputable def opt7_10 : Array Oper := opsOf (pick [1, 1, 1, 1, 0, 0, 0] bd7)
noncomputable def pt7_11 : List Item := .code (pick [1, 1, 1, 1, 0, 0, 1] bd7) :: kt7_10
noncomputable def pt7_12 : List Item := .code (pick [1, 1, 1, 1, 0, 0, 1, 0] bd7) :: kt7_10
noncomputable def opt7_12 : Array Oper := opsOf (pick [1, 1, 1, 1, 0, 0, 1, 0] bd7)
noncomputable def kt7_12 : List Item := .code (pick [1, 1, 1, 1, 0, 0, 1, 1, 1] bd7) :: kt7_10
noncomputable def pt7_13 : List Item := .code (pick [1, 1, 1, 1, 0, 0, 1, 1, 0] bd7) :: kt7_12
noncomputable def opt7_13 : Array Oper := opsOf (pick [1, 1, 1, 1, 0, 0, 1, 1, 0] bd7)
noncomputable def pt7_14 : List Item := .code (pick [1, 1, 1, 1, 0, 0, 1, 1, 1] bd7) :: kt7_10
noncomputable def kt7_13 : List Item := .code (pick [1, 1, 1, 1, 1, 1] bd7) :: []
noncomputable def pt7_15 : List Item := .code (pick [1, 1, 1, 1, 1, 0] bd7) :: kt7_13
noncomputable def opt7_15 : Array Oper := opsOf (pick [1, 1, 1, 1, 1, 0] bd7)
noncomputable def kt7_14 : List Item := .code (pick [1, 1, 1, 1, 0, 0, 1, 1, 1, 1, 1] bd7) :: kt7_10
noncomputable def pt7_16 : List Item := .code (pick [1, 1, 1, 1, 0, 0, 1, 1, 1, 1, 0] bd7) :: kt7_14
noncomputable def opt7_16 : Array Oper := opsOf (pick [1, 1, 1, 1, 0, 0, 1, 1, 1, 1, 0] bd7)
noncomputable def pt7_17 : List Item := .code (pick [1, 1, 1, 1, 0, 0, 1, 1, 1, 1, 1] bd7) :: kt7_10
noncomputable def kt7_15 : List Item := .code (pick [1, 1, 1, 1, 0, 0, 1, 1, 1, 1, 1, 0, 1] bd7) :: kt7_10
noncomputable def pt7_18 : List Item := .code (pick [1, 1, 1, 1, 0, 0, 1, 1, 1, 1, 1, 0, 0] bd7) :: kt7_15
noncomputable def opt7_18 : Array Oper := opsOf (pick [1, 1, 1, 1, 0, 0, 1, 1, 1, 1, 1, 0, 0] bd7)
noncomputable def pt7_19 : List Item := .code (pick [1, 1, 1, 1, 0, 0, 1, 1, 1, 1, 1, 1] bd7) :: kt7_10
noncomputable def opt7_19 : Array Oper := opsOf (pick [1, 1, 1, 1, 0, 0, 1, 1, 1, 1, 1, 1] bd7)
noncomputable def pt7_20 : List Item := .code (pick [1, 1, 1, 1, 0, 0, 1, 1, 1, 1, 1, 0, 1] bd7) :: kt7_10
noncomputable def pt7_21 : List Item := .code (pick [1, 1, 1, 1, 1, 1] bd7) :: []
noncomputable def pt7_22 : List Item := .code (pick [1, 0, 0, 1, 0, 1] bd7) :: kt7_2
theorem sendM (q : Nat) (l : List Sig) (bv : BitVec 64) (hg : GoodG l) (no tm ov : Int) : Ctr Try.prog 7 #[.pointer (some ⟨q, 0, none⟩), .int .i64 no, .int .i64 tm, .int .i64 ov] [QuC q l bv] (fun v' => star (fact (v' = .int .i64 (sendE l no tm ov)) :: [QuC q (sendL l no tm ov) bv])) false := by
 refine spec_of_at (fn := Try.f7) (c := bd7) (args := [.pointer (some ⟨q, 0, none⟩), .int .i64 no, .int .i64 tm, .int .i64 ov]) (n := 82) (e := [(0, .pointer (some ⟨q, 0, none⟩)), (1, .int .i64 no), (2, .int .i64 tm), (3, .int .i64 ov)]) (k := pt7_0) Try.func7 (by kernel_rfl) (by kernel_rfl) (by kernel_rfl) (by kernel_rfl) 300 (by kernel_rfl) ?_
 have hlen := hg.1
 refine At.region (ops := opt7_0) (m := 3) (k' := kt7_0) (by kernel_rfl) 300 (k'' := pt7_1) (by kernel_rfl) ?_
 refine SOps.o (Op.new 5 3 [.int .i64 no] (fun b => .pointer (some ⟨b, 0, none⟩)) (by intro u b; kernel_rfl) ?_)
 intro bx1
 refine SOps.o (Op.new 6 3 [.int .i64 tm] (fun b => .pointer (some ⟨b, 0, none⟩)) (by intro u b; kernel_rfl) ?_)
 intro bx2
 refine SOps.pures 1 (i' := 3) (m' := 0) (e' := [(8, .int .i64 0), (6, .pointer (some ⟨bx2, 0, none⟩)), (5, .pointer (some ⟨bx1, 0, none⟩)), (0, .pointer (some ⟨q, 0, none⟩)), (1, .int .i64 no), (2, .int .i64 tm), (3, .int .i64 ov)]) (by intro u; kernel_rfl) ?_
 refine SOps.nil (.inl rfl) ?_
 refine At.pick [0, 3, 5, 6] (e' := [(0, .pointer (some ⟨q, 0, none⟩)), (3, .int .i64 ov), (5, .pointer (some ⟨bx1, 0, none⟩)), (6, .pointer (some ⟨bx2, 0, none⟩))]) (by kernel_rfl) ?_
 refine At.region (ops := opt7_1) (m := 3) (k' := kt7_3) (by kernel_rfl) 300 (k'' := pt7_2) (by kernel_rfl) ?_
 refine SOps.pures 3 (i' := 3) (m' := 0) (e' := [(10, .bool false), (12, .bool false), (11, .pointer (some ⟨q, 0, none⟩)), (0, .pointer (some ⟨q, 0, none⟩)), (3, .int .i64 ov), (5, .pointer (some ⟨bx1, 0, none⟩)), (6, .pointer (some ⟨bx2, 0, none⟩))]) (by intro u; kernel_rfl) ?_
 refine SOps.nil (.inl rfl) ?_
 refine At.pick [0, 3, 5, 6, 10] (e' := [(0, .pointer (some ⟨q, 0, none⟩)), (3, .int .i64 ov), (5, .pointer (some ⟨bx1, 0, none⟩)), (6, .pointer (some ⟨bx2, 0, none⟩)), (10, .bool false)]) (by kernel_rfl) ?_
 refine At.cond 300 false (c := .tmp 10) (k1 := pt7_3) (k2 := pt7_4) (by kernel_rfl) (by intro u; kernel_rfl) (fun h => by cases h) (fun _ => ?_)
 refine At.pick [0, 3, 5, 6] (e' := [(0, .pointer (some ⟨q, 0, none⟩)), (3, .int .i64 ov), (5, .pointer (some ⟨bx1, 0, none⟩)), (6, .pointer (some ⟨bx2, 0, none⟩))]) (by kernel_rfl) ?_
 refine At.region (ops := opt7_4) (m := 12) (k' := kt7_5) (by kernel_rfl) 300 (k'' := pt7_5) (by kernel_rfl) ?_
 refine SOps.v (Val.ld1 1 14 3 bx1 0 (.int .i64 no) rfl (by intro u; kernel_rfl) (by kernel_rfl) (Rd.cells rfl)) ?_
 refine SOps.o (Op.callS 15 13 #[.int .i64 no] (.bool (rightN no)) [] (B := []) (D := [Cells bx2 3 [.int .i64 tm], Cells bx1 3 [.int .i64 no], QuC q l bv]) (by intro u; kernel_rfl) (rightF no) (by first | exact .inr rfl | exact .inl rfl) (by kernel_rfl) ?_)
 refine SOps.pures 2 (i' := 4) (m' := 8) (e' := [(17, .bool (!(rightN no))), (16, .bool (!(rightN no))), (15, .bool (rightN no)), (14, .int .i64 no), (0, .pointer (some ⟨q, 0, none⟩)), (3, .int .i64 ov), (5, .pointer (some ⟨bx1, 0, none⟩)), (6, .pointer (some ⟨bx2, 0, none⟩))]) (by intro u; kernel_rfl) ?_
 refine SOps.split (fun zq => [(17, .bool zq), (16, .bool zq), (15, .bool (rightN no)), (14, .int .i64 no), (0, .pointer (some ⟨q, 0, none⟩)), (3, .int .i64 ov), (5, .pointer (some ⟨bx1, 0, none⟩)), (6, .pointer (some ⟨bx2, 0, none⟩))]) (!(rightN no)) (fun hx3 => ?_) (fun hx3 => ?_)
 ·have hx3 : (rightN no) = false := by simpa using hx3
  refine SOps.pures 8 (i' := 12) (m' := 0) (e' := [(13, .bool true), (24, .bool true), (23, .tuple #[]), (22, .tuple #[]), (21, .bool true), (20, .bool true), (19, .tuple #[]), (18, .tuple #[]), (17, .bool true), (16, .bool true), (15, .bool (rightN no)), (14, .int .i64 no), (0, .pointer (some ⟨q, 0, none⟩)), (3, .int .i64 ov), (5, .pointer (some ⟨bx1, 0, none⟩)), (6, .pointer (some ⟨bx2, 0, none⟩))]) (by intro u; kernel_rfl) ?_
  refine SOps.nil (.inl rfl) ?_
  refine At.pick [0, 3, 5, 6, 13] (e' := [(0, .pointer (some ⟨q, 0, none⟩)), (3, .int .i64 ov), (5, .pointer (some ⟨bx1, 0, none⟩)), (6, .pointer (some ⟨bx2, 0, none⟩)), (13, .bool true)]) (by kernel_rfl) ?_
  refine At.cond 300 true (c := .tmp 13) (k1 := pt7_6) (k2 := pt7_7) (by kernel_rfl) (by intro u; kernel_rfl) (fun _ => ?_) (fun h => by cases h)
  refine At.pick [] (e' := []) (by kernel_rfl) ?_
  refine At.region (ops := opt7_6) (m := 1) (k' := kt7_6) (by kernel_rfl) 300 (k'' := pt7_8) (by kernel_rfl) ?_
  refine SOps.pures 1 (i' := 1) (m' := 0) (e' := [(8, .int .i64 2)]) (by intro u; kernel_rfl) ?_
  refine SOps.nil (.inl rfl) ?_
  refine At.ret1 (fn := Try.f7) (v := .int .i64 2) (t := 8) (by kernel_rfl) Try.func7 (by kernel_rfl) (by kernel_rfl) (fun F w ho => ?_)
  have hbad : badG no tm ov = true := by unfold badG; first | (simp [*]; done) | (simp [*]; omega)
  have e1 : sendE l no tm ov = 2 := by unfold sendE; rw [if_pos hbad]
  have e2 : sendL l no tm ov = l := by unfold sendL; rw [if_pos hbad]
  rw [e1, e2]
  exact shutV rfl [2] rfl ho
 ·have hx3 : (rightN no) = true := by simpa using hx3
  refine SOps.v (Val.ld1 0 18 3 bx2 0 (.int .i64 tm) rfl (by intro u; kernel_rfl) (by kernel_rfl) (Rd.cells rfl)) ?_
  refine SOps.pures 3 (i' := 8) (m' := 4) (e' := [(21, .bool (decide (tm < (-1)))), (20, .bool (decide (tm < (-1)))), (19, .bool (decide (tm < (-1)))), (18, .int .i64 tm), (17, .bool false), (16, .bool false), (15, .bool (rightN no)), (14, .int .i64 no), (0, .pointer (some ⟨q, 0, none⟩)), (3, .int .i64 ov), (5, .pointer (some ⟨bx1, 0, none⟩)), (6, .pointer (some ⟨bx2, 0, none⟩))]) (by intro u; kernel_rfl) ?_
  refine SOps.split (fun zq => [(21, .bool zq), (20, .bool zq), (19, .bool zq), (18, .int .i64 tm), (17, .bool false), (16, .bool false), (15, .bool (rightN no)), (14, .int .i64 no), (0, .pointer (some ⟨q, 0, none⟩)), (3, .int .i64 ov), (5, .pointer (some ⟨bx1, 0, none⟩)), (6, .pointer (some ⟨bx2, 0, none⟩))]) (decide (tm < (-1))) (fun hx4 => ?_) (fun hx4 => ?_)
  ·have hx4 : tm < -1 := by simpa using hx4
   refine SOps.pures 4 (i' := 12) (m' := 0) (e' := [(13, .bool true), (24, .bool true), (23, .tuple #[]), (22, .tuple #[]), (21, .bool true), (20, .bool true), (19, .bool true), (18, .int .i64 tm), (17, .bool false), (16, .bool false), (15, .bool (rightN no)), (14, .int .i64 no), (0, .pointer (some ⟨q, 0, none⟩)), (3, .int .i64 ov), (5, .pointer (some ⟨bx1, 0, none⟩)), (6, .pointer (some ⟨bx2, 0, none⟩))]) (by intro u; kernel_rfl) ?_
   refine SOps.nil (.inl rfl) ?_
   refine At.pick [0, 3, 5, 6, 13] (e' := [(0, .pointer (some ⟨q, 0, none⟩)), (3, .int .i64 ov), (5, .pointer (some ⟨bx1, 0, none⟩)), (6, .pointer (some ⟨bx2, 0, none⟩)), (13, .bool true)]) (by kernel_rfl) ?_
   refine At.cond 300 true (c := .tmp 13) (k1 := pt7_6) (k2 := pt7_7) (by kernel_rfl) (by intro u; kernel_rfl) (fun _ => ?_) (fun h => by cases h)
   refine At.pick [] (e' := []) (by kernel_rfl) ?_
   refine At.region (ops := opt7_6) (m := 1) (k' := kt7_6) (by kernel_rfl) 300 (k'' := pt7_8) (by kernel_rfl) ?_
   refine SOps.pures 1 (i' := 1) (m' := 0) (e' := [(8, .int .i64 2)]) (by intro u; kernel_rfl) ?_
   refine SOps.nil (.inl rfl) ?_
   refine At.ret1 (fn := Try.f7) (v := .int .i64 2) (t := 8) (by kernel_rfl) Try.func7 (by kernel_rfl) (by kernel_rfl) (fun F w ho => ?_)
   have hbad : badG no tm ov = true := by unfold badG; first | (simp [*]; done) | (simp [*]; omega)
   have e1 : sendE l no tm ov = 2 := by unfold sendE; rw [if_pos hbad]
   have e2 : sendL l no tm ov = l := by unfold sendL; rw [if_pos hbad]
   rw [e1, e2]
   exact shutV rfl [2] rfl ho
  ·have hx4 : tm ≥ -1 := by simpa using hx4
   refine SOps.pures 4 (i' := 12) (m' := 0) (e' := [(13, .bool (decide (ov < 0))), (24, .bool (decide (ov < 0))), (23, .bool (decide (ov < 0))), (22, .int .i64 ov), (21, .bool false), (20, .bool false), (19, .bool false), (18, .int .i64 tm), (17, .bool false), (16, .bool false), (15, .bool (rightN no)), (14, .int .i64 no), (0, .pointer (some ⟨q, 0, none⟩)), (3, .int .i64 ov), (5, .pointer (some ⟨bx1, 0, none⟩)), (6, .pointer (some ⟨bx2, 0, none⟩))]) (by intro u; kernel_rfl) ?_
   refine SOps.nil (.inl rfl) ?_
   refine At.pick [0, 3, 5, 6, 13] (e' := [(0, .pointer (some ⟨q, 0, none⟩)), (3, .int .i64 ov), (5, .pointer (some ⟨bx1, 0, none⟩)), (6, .pointer (some ⟨bx2, 0, none⟩)), (13, .bool (decide (ov < 0)))]) (by kernel_rfl) ?_
   refine At.split (fun zq => [(0, .pointer (some ⟨q, 0, none⟩)), (3, .int .i64 ov), (5, .pointer (some ⟨bx1, 0, none⟩)), (6, .pointer (some ⟨bx2, 0, none⟩)), (13, .bool zq)]) (decide (ov < 0)) (fun hx5 => ?_) (fun hx5 => ?_)
   ·have hx5 : ov < 0 := by simpa using hx5
    refine At.cond 300 true (c := .tmp 13) (k1 := pt7_6) (k2 := pt7_7) (by kernel_rfl) (by intro u; kernel_rfl) (fun _ => ?_) (fun h => by cases h)
    refine At.pick [] (e' := []) (by kernel_rfl) ?_
    refine At.region (ops := opt7_6) (m := 1) (k' := kt7_6) (by kernel_rfl) 300 (k'' := pt7_8) (by kernel_rfl) ?_
    refine SOps.pures 1 (i' := 1) (m' := 0) (e' := [(8, .int .i64 2)]) (by intro u; kernel_rfl) ?_
    refine SOps.nil (.inl rfl) ?_
    refine At.ret1 (fn := Try.f7) (v := .int .i64 2) (t := 8) (by kernel_rfl) Try.func7 (by kernel_rfl) (by kernel_rfl) (fun F w ho => ?_)
    have hbad : badG no tm ov = true := by unfold badG; first | (simp [*]; done) | (simp [*]; omega)
    have e1 : sendE l no tm ov = 2 := by unfold sendE; rw [if_pos hbad]
    have e2 : sendL l no tm ov = l := by unfold sendL; rw [if_pos hbad]
    rw [e1, e2]
    exact shutV rfl [2] rfl ho
   ·have hx5 : ov ≥ 0 := by simpa using hx5
    refine At.cond 300 false (c := .tmp 13) (k1 := pt7_6) (k2 := pt7_7) (by kernel_rfl) (by intro u; kernel_rfl) (fun h => by cases h) (fun _ => ?_)
    refine At.pick [0, 3, 5, 6] (e' := [(0, .pointer (some ⟨q, 0, none⟩)), (3, .int .i64 ov), (5, .pointer (some ⟨bx1, 0, none⟩)), (6, .pointer (some ⟨bx2, 0, none⟩))]) (by kernel_rfl) ?_
    have hbad : badG no tm ov = false := by unfold badG; first | (simp [*]; done) | (simp [*]; omega)
    have hov := overI_range ov
    refine At.region (ops := opt7_7) (m := 3) (k' := kt7_7) (by kernel_rfl) 300 (k'' := pt7_9) (by kernel_rfl) ?_
    refine SOps.pures 1 (i' := 1) (m' := 2) (e' := [(25, .int .i64 ov), (0, .pointer (some ⟨q, 0, none⟩)), (3, .int .i64 ov), (5, .pointer (some ⟨bx1, 0, none⟩)), (6, .pointer (some ⟨bx2, 0, none⟩))]) (by intro u; kernel_rfl) ?_
    refine SOps.o (Op.callS 26 14 #[.int .i64 ov] (.int .i64 (overI ov)) [] (B := []) (D := [Cells bx2 3 [.int .i64 tm], Cells bx1 3 [.int .i64 no], QuC q l bv]) (by intro u; kernel_rfl) (overF ov) (by first | exact .inr rfl | exact .inl rfl) (by kernel_rfl) ?_)
    refine SOps.pures 1 (i' := 3) (m' := 0) (e' := [(3, .int .i64 (overI ov)), (26, .int .i64 (overI ov)), (25, .int .i64 ov), (0, .pointer (some ⟨q, 0, none⟩)), (3, .int .i64 ov), (5, .pointer (some ⟨bx1, 0, none⟩)), (6, .pointer (some ⟨bx2, 0, none⟩))]) (by intro u; kernel_rfl) ?_
    refine SOps.nil (.inl rfl) ?_
    refine At.pick [0, 3, 5, 6] (e' := [(0, .pointer (some ⟨q, 0, none⟩)), (3, .int .i64 (overI ov)), (5, .pointer (some ⟨bx1, 0, none⟩)), (6, .pointer (some ⟨bx2, 0, none⟩))]) (by kernel_rfl) ?_
    refine At.perm [2] rfl ?_
    refine At.conseq (fun F w ho => QuC.open_ ho) (fun x => ?_)
    obtain ⟨S, cap⟩ := x
    refine At.region (ops := opt7_9) (m := 7) (k' := kt7_8) (by kernel_rfl) 300 (k'' := pt7_10) (by kernel_rfl) ?_
    refine SOps.pures 3 (i' := 3) (m' := 4) (e' := [(29, .pointer (some ⟨q, 0, none⟩)), (28, .pointer (some ⟨q, 0, none⟩)), (27, .pointer (some ⟨q, 0, none⟩)), (0, .pointer (some ⟨q, 0, none⟩)), (3, .int .i64 (overI ov)), (5, .pointer (some ⟨bx1, 0, none⟩)), (6, .pointer (some ⟨bx2, 0, none⟩))]) (by intro u; kernel_rfl) ?_
    refine SOps.v (Val.ld1 0 30 26 q 0 (.slice S l.length cap) rfl (by intro u; kernel_rfl) (by kernel_rfl) (Rd.cells rfl)) ?_
    refine SOps.pures 1 (i' := 5) (m' := 2) (e' := [(31, .func (.func 16) #[] #[.pointer (some ⟨bx1, 0, none⟩), .pointer (some ⟨bx2, 0, none⟩)]), (30, .slice S l.length cap), (29, .pointer (some ⟨q, 0, none⟩)), (28, .pointer (some ⟨q, 0, none⟩)), (27, .pointer (some ⟨q, 0, none⟩)), (0, .pointer (some ⟨q, 0, none⟩)), (3, .int .i64 (overI ov)), (5, .pointer (some ⟨bx1, 0, none⟩)), (6, .pointer (some ⟨bx2, 0, none⟩))]) (by intro u; kernel_rfl) ?_
    refine SOps.o (Op.callS 32 15 #[.slice S l.length cap, .func (.func 16) #[] #[.pointer (some ⟨bx1, 0, none⟩), .pointer (some ⟨bx2, 0, none⟩)]] (.int .i64 (idxI (atG l no tm))) [1, 2, 1] (B := [Grow S cap 31 3 l.length (l.flatMap encG), Cells bx1 3 [.int .i64 no], Cells bx2 3 [.int .i64 tm]]) (D := [Cells q 42 [.slice S l.length cap, .int .u64 (bv.toNat : Int)]]) (by intro u; kernel_rfl) (indexSend S l.length cap l rfl (by omega) no tm bx1 bx2) (by first | exact .inr rfl | exact .inl rfl) (by kernel_rfl) ?_)
    refine SOps.pures 1 (i' := 7) (m' := 0) (e' := [(9, .int .i64 (idxI (atG l no tm))), (32, .int .i64 (idxI (atG l no tm))), (31, .func (.func 16) #[] #[.pointer (some ⟨bx1, 0, none⟩), .pointer (some ⟨bx2, 0, none⟩)]), (30, .slice S l.length cap), (29, .pointer (some ⟨q, 0, none⟩)), (28, .pointer (some ⟨q, 0, none⟩)), (27, .pointer (some ⟨q, 0, none⟩)), (0, .pointer (some ⟨q, 0, none⟩)), (3, .int .i64 (overI ov)), (5, .pointer (some ⟨bx1, 0, none⟩)), (6, .pointer (some ⟨bx2, 0, none⟩))]) (by intro u; kernel_rfl) ?_
    refine SOps.nil (.inl rfl) ?_
    refine At.pick [0, 3, 5, 6, 9] (e' := [(0, .pointer (some ⟨q, 0, none⟩)), (3, .int .i64 (overI ov)), (5, .pointer (some ⟨bx1, 0, none⟩)), (6, .pointer (some ⟨bx2, 0, none⟩)), (9, .int .i64 (idxI (atG l no tm)))]) (by kernel_rfl) ?_
    cases hO : atG l no tm with
    | none =>
     show At _ _ [(0, .pointer (some ⟨q, 0, none⟩)), (3, .int .i64 (overI ov)), (5, .pointer (some ⟨bx1, 0, none⟩)), (6, .pointer (some ⟨bx2, 0, none⟩)), (9, .int .i64 (-1))] _
     refine At.region (ops := opt7_10) (m := 7) (k' := kt7_11) (by kernel_rfl) 300 (k'' := pt7_11) (by kernel_rfl) ?_
     refine SOps.pures 7 (i' := 7) (m' := 0) (e' := [(46, .bool false), (52, .bool false), (51, .tuple #[]), (50, .tuple #[]), (49, .bool false), (48, .bool false), (47, .int .i64 (-1)), (0, .pointer (some ⟨q, 0, none⟩)), (3, .int .i64 (overI ov)), (5, .pointer (some ⟨bx1, 0, none⟩)), (6, .pointer (some ⟨bx2, 0, none⟩)), (9, .int .i64 (-1))]) (by intro u; kernel_rfl) ?_
     refine SOps.nil (.inl rfl) ?_
     refine At.pick [0, 3, 5, 6, 9, 46] (e' := [(0, .pointer (some ⟨q, 0, none⟩)), (3, .int .i64 (overI ov)), (5, .pointer (some ⟨bx1, 0, none⟩)), (6, .pointer (some ⟨bx2, 0, none⟩)), (9, .int .i64 (-1)), (46, .bool false)]) (by kernel_rfl) ?_
     refine At.cond 300 false (c := .tmp 46) (k1 := pt7_12) (k2 := pt7_13) (by kernel_rfl) (by intro u; kernel_rfl) (fun h => by cases h) (fun _ => ?_)
     refine At.pick [0, 3, 5, 6, 9] (e' := [(0, .pointer (some ⟨q, 0, none⟩)), (3, .int .i64 (overI ov)), (5, .pointer (some ⟨bx1, 0, none⟩)), (6, .pointer (some ⟨bx2, 0, none⟩)), (9, .int .i64 (-1))]) (by kernel_rfl) ?_
     refine At.region (ops := opt7_13) (m := 3) (k' := kt7_12) (by kernel_rfl) 300 (k'' := pt7_14) (by kernel_rfl) ?_
     refine SOps.pures 3 (i' := 3) (m' := 0) (e' := [(72, .bool false), (74, .bool false), (73, .int .i64 (-1)), (0, .pointer (some ⟨q, 0, none⟩)), (3, .int .i64 (overI ov)), (5, .pointer (some ⟨bx1, 0, none⟩)), (6, .pointer (some ⟨bx2, 0, none⟩)), (9, .int .i64 (-1))]) (by intro u; kernel_rfl) ?_
     refine SOps.nil (.inl rfl) ?_
     refine At.pick [0, 3, 5, 6, 72] (e' := [(0, .pointer (some ⟨q, 0, none⟩)), (3, .int .i64 (overI ov)), (5, .pointer (some ⟨bx1, 0, none⟩)), (6, .pointer (some ⟨bx2, 0, none⟩)), (72, .bool false)]) (by kernel_rfl) ?_
     refine At.cond 300 false (c := .tmp 72) (k1 := pt7_15) (k2 := pt7_16) (by kernel_rfl) (by intro u; kernel_rfl) (fun h => by cases h) (fun _ => ?_)
     refine At.pick [0, 3, 5, 6] (e' := [(0, .pointer (some ⟨q, 0, none⟩)), (3, .int .i64 (overI ov)), (5, .pointer (some ⟨bx1, 0, none⟩)), (6, .pointer (some ⟨bx2, 0, none⟩))]) (by kernel_rfl) ?_
     refine At.region (ops := opt7_16) (m := 7) (k' := kt7_14) (by kernel_rfl) 300 (k'' := pt7_17) (by kernel_rfl) ?_
     refine SOps.pures 3 (i' := 3) (m' := 4) (e' := [(78, .pointer (some ⟨q, 0, none⟩)), (77, .pointer (some ⟨q, 0, none⟩)), (76, .pointer (some ⟨q, 0, none⟩)), (0, .pointer (some ⟨q, 0, none⟩)), (3, .int .i64 (overI ov)), (5, .pointer (some ⟨bx1, 0, none⟩)), (6, .pointer (some ⟨bx2, 0, none⟩))]) (by intro u; kernel_rfl) ?_
     refine SOps.v (Val.ld1 3 79 26 q 0 (.slice S l.length cap) rfl (by intro u; kernel_rfl) (by kernel_rfl) (Rd.cells rfl)) ?_
     refine SOps.pures 3 (i' := 7) (m' := 0) (e' := [(75, .bool (decide (((l.length : Nat) : Int) ≥ 32))), (81, .bool (decide (((l.length : Nat) : Int) ≥ 32))), (80, .int .i64 ((l.length : Nat) : Int)), (79, .slice S l.length cap), (78, .pointer (some ⟨q, 0, none⟩)), (77, .pointer (some ⟨q, 0, none⟩)), (76, .pointer (some ⟨q, 0, none⟩)), (0, .pointer (some ⟨q, 0, none⟩)), (3, .int .i64 (overI ov)), (5, .pointer (some ⟨bx1, 0, none⟩)), (6, .pointer (some ⟨bx2, 0, none⟩))]) (by intro u; kernel_rfl) ?_
     refine SOps.nil (.inl rfl) ?_
     refine At.pick [0, 3, 5, 6, 75] (e' := [(0, .pointer (some ⟨q, 0, none⟩)), (3, .int .i64 (overI ov)), (5, .pointer (some ⟨bx1, 0, none⟩)), (6, .pointer (some ⟨bx2, 0, none⟩)), (75, .bool (decide (((l.length : Nat) : Int) ≥ 32)))]) (by kernel_rfl) ?_
     refine At.split (fun zq => [(0, .pointer (some ⟨q, 0, none⟩)), (3, .int .i64 (overI ov)), (5, .pointer (some ⟨bx1, 0, none⟩)), (6, .pointer (some ⟨bx2, 0, none⟩)), (75, .bool zq)]) (decide (((l.length : Nat) : Int) ≥ 32)) (fun hx6 => ?_) (fun hx6 => ?_)
     ·have hx6 : ((l.length : Nat) : Int) ≥ 32 := by simpa using hx6
      refine At.cond 300 true (c := .tmp 75) (k1 := pt7_18) (k2 := pt7_19) (by kernel_rfl) (by intro u; kernel_rfl) (fun _ => ?_) (fun h => by cases h)
      refine At.pick [] (e' := []) (by kernel_rfl) ?_
      refine At.region (ops := opt7_18) (m := 1) (k' := kt7_15) (by kernel_rfl) 300 (k'' := pt7_20) (by kernel_rfl) ?_
      refine SOps.pures 1 (i' := 1) (m' := 0) (e' := [(8, .int .i64 3)]) (by intro u; kernel_rfl) ?_
      refine SOps.nil (.inl rfl) ?_
      refine At.ret1 (fn := Try.f7) (v := .int .i64 3) (t := 8) (by kernel_rfl) Try.func7 (by kernel_rfl) (by kernel_rfl) (fun F w ho => ?_)
      have e1 : sendE l no tm ov = 3 := by unfold sendE; rw [if_neg (by simp [hbad]), hO] <;> first | rfl | (simp only []; rw [if_pos (by omega)]) | (simp only []; rw [if_neg (by omega)])
      have e2 : sendL l no tm ov = l := by unfold sendL; rw [if_neg (by simp [hbad]), hO] <;> first | rfl | (simp only []; rw [if_pos (by omega)]) | (simp only []; rw [if_neg (by omega)])
      have ho2 := QuC.close (l := l) (bv := bv) (by first | rfl | (simp; done)) [3, 0] rfl ho
      rw [e1, e2]
      exact shutV rfl [0] rfl ho2
     ·have hx6 : ((l.length : Nat) : Int) < 32 := by simpa using hx6
      refine At.cond 300 false (c := .tmp 75) (k1 := pt7_18) (k2 := pt7_19) (by kernel_rfl) (by intro u; kernel_rfl) (fun h => by cases h) (fun _ => ?_)
      refine At.pick [0, 3, 5, 6] (e' := [(0, .pointer (some ⟨q, 0, none⟩)), (3, .int .i64 (overI ov)), (5, .pointer (some ⟨bx1, 0, none⟩)), (6, .pointer (some ⟨bx2, 0, none⟩))]) (by kernel_rfl) ?_
      refine At.game [1, 1, 1] 13 (L := #[false, false, false, false, false, false, false, false, false, false, false, false, false, false]) (ops := opt7_19) (m := 14) (k' := kt7_10) (by kernel_rfl) 300 (k'' := pt7_15) (by kernel_rfl) (by kernel_rfl) rfl (H := [Cells bx1 3 [.int .i64 no], Cells bx2 3 [.int .i64 tm], Cells q 42 [.slice S l.length cap, .int .u64 (bv.toNat : Int)]]) (E := [Grow S cap 31 3 l.length (l.flatMap encG)]) rfl ?_
      refine GOps.pures [0, 1, 2, 3, 7] (L' := #[true, true, true, true, false, false, false, true, false, false, false, false, false, false]) (m' := 9) (e' := [(40, .int .i64 (overI ov)), (36, .pointer (some ⟨q, 0, none⟩)), (35, .pointer (some ⟨q, 0, none⟩)), (34, .pointer (some ⟨q, 0, none⟩)), (33, .pointer (some ⟨q, 0, none⟩)), (0, .pointer (some ⟨q, 0, none⟩)), (3, .int .i64 (overI ov)), (5, .pointer (some ⟨bx1, 0, none⟩)), (6, .pointer (some ⟨bx2, 0, none⟩))]) (by kernel_rfl) (by intro u; kernel_rfl) ?_
      refine GOps.v 4 (Val.ld1 2 37 26 q 0 (.slice S l.length cap) rfl (by intro u; kernel_rfl) (by kernel_rfl) (Rd.cells rfl)) (by kernel_rfl) (by kernel_rfl) (by kernel_rfl) (by kernel_rfl) (L' := #[true, true, true, true, true, false, false, true, false, false, false, false, false, false]) rfl ?_
      refine GOps.v 5 (Val.ld1 0 38 3 bx1 0 (.int .i64 no) rfl (by intro u; kernel_rfl) (by kernel_rfl) (Rd.cells rfl)) (by kernel_rfl) (by kernel_rfl) (by kernel_rfl) (by kernel_rfl) (L' := #[true, true, true, true, true, true, false, true, false, false, false, false, false, false]) rfl ?_
      refine GOps.v 6 (Val.ld1 1 39 3 bx2 0 (.int .i64 tm) rfl (by intro u; kernel_rfl) (by kernel_rfl) (Rd.cells rfl)) (by kernel_rfl) (by kernel_rfl) (by kernel_rfl) (by kernel_rfl) (L' := #[true, true, true, true, true, true, true, true, false, false, false, false, false, false]) rfl ?_
      refine GOps.pures [8] (L' := #[true, true, true, true, true, true, true, true, true, false, false, false, false, false]) (m' := 5) (e' := [(41, .agg #[.int .i64 no, .int .i64 tm, .int .i64 (overI ov)]), (39, .int .i64 tm), (38, .int .i64 no), (37, .slice S l.length cap), (40, .int .i64 (overI ov)), (36, .pointer (some ⟨q, 0, none⟩)), (35, .pointer (some ⟨q, 0, none⟩)), (34, .pointer (some ⟨q, 0, none⟩)), (33, .pointer (some ⟨q, 0, none⟩)), (0, .pointer (some ⟨q, 0, none⟩)), (3, .int .i64 (overI ov)), (5, .pointer (some ⟨bx1, 0, none⟩)), (6, .pointer (some ⟨bx2, 0, none⟩))]) (by kernel_rfl) (by intro u; kernel_rfl) ?_
      refine GOps.one 9 (by kernel_rfl) (GStep.o 9 (L' := #[true, true, true, true, true, true, true, true, true, true, false, false, false, false]) rfl (Op.new 42 31 [.int .i64 no, .int .i64 tm, .int .i64 (overI ov)] (fun b => .slice (some ⟨b, 0, none⟩) 1 1) (by intro u b; kernel_rfl) ?_))
      intro bx7
      refine GOps.one 10 (by kernel_rfl) (GStep.o 10 (L' := #[true, true, true, true, true, true, true, true, true, true, true, false, false, false]) rfl (Op.appS 1 0 43 (sz := 3) (bytes := 24) (ty := 26) el_26 (([(⟨no, tm, (overI ov)⟩ : Sig)]).flatMap encG) ((l ++ [(⟨no, tm, (overI ov)⟩ : Sig)]).flatMap encG) (n := l.length) (q := 1) (c := 1) (r := (l.length + 1)) (by omega) rfl rfl (by intro u; kernel_rfl) (by rw [flat_len encG 3 (fun _ => rfl)] <;> first | omega | (simp only [List.length_cons, List.length_nil]; done) | (simp only [List.length_append, List.length_take, List.length_drop, List.length_cons, List.length_nil, List.length_set]; omega)) SrcOf.cells (flat_one encG (fun _ => rfl) _) (by unfold maxLen; omega) (by omega) (List.flatMap_append).symm ?_))
      intro Sx8 cx9
      refine GOps.pures [11, 12] (L' := #[true, true, true, true, true, true, true, true, true, true, true, true, true, false]) (m' := 1) (e' := [(45, .pointer (some ⟨q, 0, none⟩)), (44, .pointer (some ⟨q, 0, none⟩)), (43, .slice Sx8 (l.length + 1) cx9), (42, .slice (some ⟨bx7, 0, none⟩) 1 1), (41, .agg #[.int .i64 no, .int .i64 tm, .int .i64 (overI ov)]), (39, .int .i64 tm), (38, .int .i64 no), (37, .slice S l.length cap), (40, .int .i64 (overI ov)), (36, .pointer (some ⟨q, 0, none⟩)), (35, .pointer (some ⟨q, 0, none⟩)), (34, .pointer (some ⟨q, 0, none⟩)), (33, .pointer (some ⟨q, 0, none⟩)), (0, .pointer (some ⟨q, 0, none⟩)), (3, .int .i64 (overI ov)), (5, .pointer (some ⟨bx1, 0, none⟩)), (6, .pointer (some ⟨bx2, 0, none⟩))]) (by kernel_rfl) (by intro u; kernel_rfl) ?_
      refine GOps.one 13 (by kernel_rfl) (GStep.d (L' := #[true, true, true, true, true, true, true, true, true, true, true, true, true, true]) rfl rfl (Op.st 2 26 q 0 (.slice Sx8 (l.length + 1) cx9) [.slice Sx8 (l.length + 1) cx9] 1 (B' := Cells q 42 [.slice Sx8 (l.length + 1) cx9, .int .u64 (bv.toNat : Int)]) (A' := [Cells bx1 3 [.int .i64 no], Cells bx2 3 [.int .i64 tm], Cells q 42 [.slice Sx8 (l.length + 1) cx9, .int .u64 (bv.toNat : Int)], Cells bx7 31 [.int .i64 no, .int .i64 tm, .int .i64 (overI ov)], Grow Sx8 cx9 31 3 (l.length + 1) ((l ++ [(⟨no, tm, (overI ov)⟩ : Sig)]).flatMap encG)]) rfl (by intro u; kernel_rfl) rfl (by kernel_rfl) rfl rfl (Wr.cells rfl rfl) rfl ?_))
      refine GOps.nil (by kernel_rfl) ?_
      refine At.pick [] (e' := []) (by kernel_rfl) ?_
      refine At.region (ops := opt7_15) (m := 1) (k' := kt7_13) (by kernel_rfl) 300 (k'' := pt7_21) (by kernel_rfl) ?_
      refine SOps.pures 1 (i' := 1) (m' := 0) (e' := [(8, .int .i64 0)]) (by intro u; kernel_rfl) ?_
      refine SOps.nil (.inl rfl) ?_
      refine At.ret1 (fn := Try.f7) (v := .int .i64 0) (t := 8) (by kernel_rfl) Try.func7 (by kernel_rfl) (by kernel_rfl) (fun F w ho => ?_)
      have e1 : sendE l no tm ov = 0 := by unfold sendE; rw [if_neg (by simp [hbad]), hO] <;> first | rfl | (simp only []; rw [if_pos (by omega)]) | (simp only []; rw [if_neg (by omega)])
      have e2 : sendL l no tm ov = (l ++ [(⟨no, tm, (overI ov)⟩ : Sig)]) := by unfold sendL; rw [if_neg (by simp [hbad]), hO] <;> first | rfl | (simp only []; rw [if_pos (by omega)]) | (simp only []; rw [if_neg (by omega)])
      have ho2 := QuC.close (l := (l ++ [(⟨no, tm, (overI ov)⟩ : Sig)])) (bv := bv) (by first | rfl | (simp; done)) [2, 3] rfl ho
      rw [e1, e2]
      exact shutV rfl [0] rfl ho2
    | some k =>
     have hlt := atG_lt hO
     have hgk := hg.2 k hlt
     show At _ _ [(0, .pointer (some ⟨q, 0, none⟩)), (3, .int .i64 (overI ov)), (5, .pointer (some ⟨bx1, 0, none⟩)), (6, .pointer (some ⟨bx2, 0, none⟩)), (9, .int .i64 (k : Int))] _
     refine At.region (ops := opt7_10) (m := 7) (k' := kt7_11) (by kernel_rfl) 300 (k'' := pt7_11) (by kernel_rfl) ?_
     refine SOps.pures 3 (i' := 3) (m' := 4) (e' := [(49, .bool (decide ((k : Int) ≥ 0))), (48, .bool (decide ((k : Int) ≥ 0))), (47, .int .i64 (k : Int)), (0, .pointer (some ⟨q, 0, none⟩)), (3, .int .i64 (overI ov)), (5, .pointer (some ⟨bx1, 0, none⟩)), (6, .pointer (some ⟨bx2, 0, none⟩)), (9, .int .i64 (k : Int))]) (by intro u; kernel_rfl) ?_
     refine SOps.split (fun zq => [(49, .bool zq), (48, .bool zq), (47, .int .i64 (k : Int)), (0, .pointer (some ⟨q, 0, none⟩)), (3, .int .i64 (overI ov)), (5, .pointer (some ⟨bx1, 0, none⟩)), (6, .pointer (some ⟨bx2, 0, none⟩)), (9, .int .i64 (k : Int))]) (decide ((k : Int) ≥ 0)) (fun hx6 => ?_) (fun hx6 => ?_)
     ·have hx6 : (k : Int) ≥ 0 := by simpa using hx6
      refine SOps.v (Val.ld1 2 50 3 bx2 0 (.int .i64 tm) rfl (by intro u; kernel_rfl) (by kernel_rfl) (Rd.cells rfl)) ?_
      refine SOps.pures 3 (i' := 7) (m' := 0) (e' := [(46, .bool (tm != (-1))), (52, .bool (tm != (-1))), (51, .bool (tm != (-1))), (50, .int .i64 tm), (49, .bool true), (48, .bool true), (47, .int .i64 (k : Int)), (0, .pointer (some ⟨q, 0, none⟩)), (3, .int .i64 (overI ov)), (5, .pointer (some ⟨bx1, 0, none⟩)), (6, .pointer (some ⟨bx2, 0, none⟩)), (9, .int .i64 (k : Int))]) (by intro u; kernel_rfl) ?_
      refine SOps.nil (.inl rfl) ?_
      refine At.pick [0, 3, 5, 6, 9, 46] (e' := [(0, .pointer (some ⟨q, 0, none⟩)), (3, .int .i64 (overI ov)), (5, .pointer (some ⟨bx1, 0, none⟩)), (6, .pointer (some ⟨bx2, 0, none⟩)), (9, .int .i64 (k : Int)), (46, .bool (tm != (-1)))]) (by kernel_rfl) ?_
      refine At.split (fun zq => [(0, .pointer (some ⟨q, 0, none⟩)), (3, .int .i64 (overI ov)), (5, .pointer (some ⟨bx1, 0, none⟩)), (6, .pointer (some ⟨bx2, 0, none⟩)), (9, .int .i64 (k : Int)), (46, .bool zq)]) ((tm != (-1))) (fun hx7 => ?_) (fun hx7 => ?_)
      ·have hx7 : tm ≠ -1 := by simpa using hx7
       refine At.cond 300 true (c := .tmp 46) (k1 := pt7_12) (k2 := pt7_13) (by kernel_rfl) (by intro u; kernel_rfl) (fun _ => ?_) (fun h => by cases h)
       refine At.pick [0, 3, 9] (e' := [(0, .pointer (some ⟨q, 0, none⟩)), (3, .int .i64 (overI ov)), (9, .int .i64 (k : Int))]) (by kernel_rfl) ?_
       refine At.game [0, 0, 0, 0] 19 (L := #[false, false, false, false, false, false, false, false, false, false, false, false, false, false, false, false, false, false, false, false]) (ops := opt7_12) (m := 20) (k' := kt7_10) (by kernel_rfl) 300 (k'' := pt7_15) (by kernel_rfl) (by kernel_rfl) rfl (H := [Grow S cap 31 3 l.length (l.flatMap encG), Cells bx1 3 [.int .i64 no], Cells bx2 3 [.int .i64 tm], Cells q 42 [.slice S l.length cap, .int .u64 (bv.toNat : Int)]]) (E := []) rfl ?_
       refine GOps.pures [0, 1, 2, 4, 5, 6, 7, 9, 13] (L' := #[true, true, true, false, true, true, true, true, false, true, false, false, false, true, false, false, false, false, false, false]) (m' := 11) (e' := [(66, .int .i64 (overI ov)), (62, .int .i64 (k : Int)), (60, .pointer (some ⟨q, 0, none⟩)), (59, .pointer (some ⟨q, 0, none⟩)), (58, .pointer (some ⟨q, 0, none⟩)), (57, .int .i64 (k : Int)), (55, .pointer (some ⟨q, 0, none⟩)), (54, .pointer (some ⟨q, 0, none⟩)), (53, .pointer (some ⟨q, 0, none⟩)), (0, .pointer (some ⟨q, 0, none⟩)), (3, .int .i64 (overI ov)), (9, .int .i64 (k : Int))]) (by kernel_rfl) (by intro u; kernel_rfl) ?_
       refine GOps.v 3 (Val.ld1 3 56 26 q 0 (.slice S l.length cap) rfl (by intro u; kernel_rfl) (by kernel_rfl) (Rd.cells rfl)) (by kernel_rfl) (by kernel_rfl) (by kernel_rfl) (by kernel_rfl) (L' := #[true, true, true, true, true, true, true, true, false, true, false, false, false, true, false, false, false, false, false, false]) rfl ?_
       refine GOps.v 8 (Val.ld1 3 61 26 q 0 (.slice S l.length cap) rfl (by intro u; kernel_rfl) (by kernel_rfl) (Rd.cells rfl)) (by kernel_rfl) (by kernel_rfl) (by kernel_rfl) (by kernel_rfl) (L' := #[true, true, true, true, true, true, true, true, true, true, false, false, false, true, false, false, false, false, false, false]) rfl ?_
       refine GOps.learnH (fun F w ho => Grow.some (j := 0) ho rfl) (fun hS => ?_)
       refine GOps.v 10 (Val.pv 63 (vN (Instr.indexAt 26 (.slice S l.length cap) (.int .i64 (k : Int)))) (.pointer (some ⟨(blk S), k * 3, none⟩)) (by intro u; kernel_rfl) (pv_indexO (el := 31) (sz := 3) (by kernel_rfl) (by kernel_rfl) (by omega) (by omega) (hS.1 (by omega)) (by omega))) (by kernel_rfl) (by kernel_rfl) (by kernel_rfl) (by kernel_rfl) (L' := #[true, true, true, true, true, true, true, true, true, true, true, false, false, true, false, false, false, false, false, false]) rfl ?_
       refine GOps.pures [11] (L' := #[true, true, true, true, true, true, true, true, true, true, true, true, false, true, false, false, false, false, false, false]) (m' := 7) (e' := [(64, .pointer (some ⟨(blk S), k * 3 + 2, none⟩)), (63, .pointer (some ⟨(blk S), k * 3, none⟩)), (61, .slice S l.length cap), (56, .slice S l.length cap), (66, .int .i64 (overI ov)), (62, .int .i64 (k : Int)), (60, .pointer (some ⟨q, 0, none⟩)), (59, .pointer (some ⟨q, 0, none⟩)), (58, .pointer (some ⟨q, 0, none⟩)), (57, .int .i64 (k : Int)), (55, .pointer (some ⟨q, 0, none⟩)), (54, .pointer (some ⟨q, 0, none⟩)), (53, .pointer (some ⟨q, 0, none⟩)), (0, .pointer (some ⟨q, 0, none⟩)), (3, .int .i64 (overI ov)), (9, .int .i64 (k : Int))]) (by kernel_rfl) (by intro u; kernel_rfl) ?_
       refine GOps.v 12 (Val.ld1 0 65 3 (blk S) (k * 3 + 2) (.int .i64 ((l.getD k s0).over)) rfl (by intro u; kernel_rfl) (by kernel_rfl) (Rd.grow (flat_get encG 3 (fun _ => rfl) l k 2 (l.getD k s0) _ (getD_some (by omega)) rfl))) (by kernel_rfl) (by kernel_rfl) (by kernel_rfl) (by kernel_rfl) (L' := #[true, true, true, true, true, true, true, true, true, true, true, true, true, true, false, false, false, false, false, false]) rfl ?_
       refine GOps.v 14 (Val.pe 67 (.int .i64 (IntKind.i64.wrap ((l.getD k s0).over + overI ov))) (.int .i64 ((l.getD k s0).over + overI ov)) (by intro u; kernel_rfl) (i64_in rfl (by omega) (by omega))) (by kernel_rfl) (by kernel_rfl) (by kernel_rfl) (by kernel_rfl) (L' := #[true, true, true, true, true, true, true, true, true, true, true, true, true, true, true, false, false, false, false, false]) rfl ?_
       refine GOps.v 15 (Val.pe 68 (.int .i64 (IntKind.i64.wrap (((l.getD k s0).over + overI ov) + 1))) (.int .i64 ((l.getD k s0).over + overI ov + 1)) (by intro u; kernel_rfl) (i64_in rfl (by omega) (by omega))) (by kernel_rfl) (by kernel_rfl) (by kernel_rfl) (by kernel_rfl) (L' := #[true, true, true, true, true, true, true, true, true, true, true, true, true, true, true, true, false, false, false, false]) rfl ?_
       refine GOps.one 16 (by kernel_rfl) (GStep.o 16 (L' := #[true, true, true, true, true, true, true, true, true, true, true, true, true, true, true, true, true, false, false, false]) rfl (Op.callS 69 14 #[.int .i64 ((l.getD k s0).over + overI ov + 1)] (.int .i64 (overI ((l.getD k s0).over + overI ov + 1))) [] (B := []) (D := []) (by intro u; kernel_rfl) (overF ((l.getD k s0).over + overI ov + 1)) (by first | exact .inr rfl | exact .inl rfl) (by kernel_rfl) ?_))
       refine GOps.v 17 (Val.pv 70 (vN (Instr.indexAt 26 (.slice S l.length cap) (.int .i64 (k : Int)))) (.pointer (some ⟨(blk S), k * 3, none⟩)) (by intro u; kernel_rfl) (pv_indexO (el := 31) (sz := 3) (by kernel_rfl) (by kernel_rfl) (by omega) (by omega) (hS.1 (by omega)) (by omega))) (by kernel_rfl) (by kernel_rfl) (by kernel_rfl) (by kernel_rfl) (L' := #[true, true, true, true, true, true, true, true, true, true, true, true, true, true, true, true, true, true, false, false]) rfl ?_
       refine GOps.pures [18] (L' := #[true, true, true, true, true, true, true, true, true, true, true, true, true, true, true, true, true, true, true, false]) (m' := 1) (e' := [(71, .pointer (some ⟨(blk S), k * 3 + 2, none⟩)), (70, .pointer (some ⟨(blk S), k * 3, none⟩)), (69, .int .i64 (overI ((l.getD k s0).over + overI ov + 1))), (68, .int .i64 ((l.getD k s0).over + overI ov + 1)), (67, .int .i64 ((l.getD k s0).over + overI ov)), (65, .int .i64 ((l.getD k s0).over)), (64, .pointer (some ⟨(blk S), k * 3 + 2, none⟩)), (63, .pointer (some ⟨(blk S), k * 3, none⟩)), (61, .slice S l.length cap), (56, .slice S l.length cap), (66, .int .i64 (overI ov)), (62, .int .i64 (k : Int)), (60, .pointer (some ⟨q, 0, none⟩)), (59, .pointer (some ⟨q, 0, none⟩)), (58, .pointer (some ⟨q, 0, none⟩)), (57, .int .i64 (k : Int)), (55, .pointer (some ⟨q, 0, none⟩)), (54, .pointer (some ⟨q, 0, none⟩)), (53, .pointer (some ⟨q, 0, none⟩)), (0, .pointer (some ⟨q, 0, none⟩)), (3, .int .i64 (overI ov)), (9, .int .i64 (k : Int))]) (by kernel_rfl) (by intro u; kernel_rfl) ?_
       refine GOps.one 19 (by kernel_rfl) (GStep.d (L' := #[true, true, true, true, true, true, true, true, true, true, true, true, true, true, true, true, true, true, true, true]) rfl rfl (Op.st 0 3 (blk S) (k * 3 + 2) (.int .i64 (overI ((l.getD k s0).over + overI ov + 1))) [.int .i64 (overI ((l.getD k s0).over + overI ov + 1))] 1 (B' := Grow S cap 31 3 l.length ((l.set k ⟨(l.getD k s0).no, (l.getD k s0).timer, (overI ((l.getD k s0).over + overI ov + 1))⟩).flatMap encG)) (A' := [Grow S cap 31 3 l.length ((l.set k ⟨(l.getD k s0).no, (l.getD k s0).timer, (overI ((l.getD k s0).over + overI ov + 1))⟩).flatMap encG), Cells bx1 3 [.int .i64 no], Cells bx2 3 [.int .i64 tm], Cells q 42 [.slice S l.length cap, .int .u64 (bv.toNat : Int)]]) rfl (by intro u; kernel_rfl) rfl (by kernel_rfl) rfl rfl (Wr.grow (by simp) (by rw [flat_len encG 3 (fun _ => rfl)]; simp only [List.length_cons, List.length_nil]; omega) (flat_upd1 encG 3 (fun _ => rfl) (l := l) (i := k) (c := 2) (x := (l.getD k s0)) (y := ⟨(l.getD k s0).no, (l.getD k s0).timer, (overI ((l.getD k s0).over + overI ov + 1))⟩) (getD_some (by omega)) rfl (by decide))) rfl ?_))
       refine GOps.nil (by kernel_rfl) ?_
       refine At.pick [] (e' := []) (by kernel_rfl) ?_
       refine At.region (ops := opt7_15) (m := 1) (k' := kt7_13) (by kernel_rfl) 300 (k'' := pt7_21) (by kernel_rfl) ?_
       refine SOps.pures 1 (i' := 1) (m' := 0) (e' := [(8, .int .i64 0)]) (by intro u; kernel_rfl) ?_
       refine SOps.nil (.inl rfl) ?_
       refine At.ret1 (fn := Try.f7) (v := .int .i64 0) (t := 8) (by kernel_rfl) Try.func7 (by kernel_rfl) (by kernel_rfl) (fun F w ho => ?_)
       have e1 : sendE l no tm ov = 0 := by unfold sendE; rw [if_neg (by simp [hbad]), hO] <;> first | rfl | (simp only []; rw [if_pos (by omega)]) | (simp only []; rw [if_neg (by omega)])
       have e2 : sendL l no tm ov = (l.set k ⟨(l.getD k s0).no, (l.getD k s0).timer, (overI ((l.getD k s0).over + overI ov + 1))⟩) := by unfold sendL; rw [if_neg (by simp [hbad]), hO] <;> first | rfl | (simp only []; rw [if_pos (by omega)]) | (simp only []; rw [if_neg (by omega)])
       have ho2 := QuC.close (l := (l.set k ⟨(l.getD k s0).no, (l.getD k s0).timer, (overI ((l.getD k s0).over + overI ov + 1))⟩)) (bv := bv) (by first | rfl | (simp; done)) [3, 0] rfl ho
       rw [e1, e2]
       exact shutV rfl [0] rfl ho2
      ·have hx7 : tm = -1 := by simpa using hx7
       refine At.cond 300 false (c := .tmp 46) (k1 := pt7_12) (k2 := pt7_13) (by kernel_rfl) (by intro u; kernel_rfl) (fun h => by cases h) (fun _ => ?_)
       refine At.pick [0, 3, 5, 6, 9] (e' := [(0, .pointer (some ⟨q, 0, none⟩)), (3, .int .i64 (overI ov)), (5, .pointer (some ⟨bx1, 0, none⟩)), (6, .pointer (some ⟨bx2, 0, none⟩)), (9, .int .i64 (k : Int))]) (by kernel_rfl) ?_
       refine At.region (ops := opt7_13) (m := 3) (k' := kt7_12) (by kernel_rfl) 300 (k'' := pt7_14) (by kernel_rfl) ?_
       refine SOps.pures 3 (i' := 3) (m' := 0) (e' := [(72, .bool (decide ((k : Int) ≥ 0))), (74, .bool (decide ((k : Int) ≥ 0))), (73, .int .i64 (k : Int)), (0, .pointer (some ⟨q, 0, none⟩)), (3, .int .i64 (overI ov)), (5, .pointer (some ⟨bx1, 0, none⟩)), (6, .pointer (some ⟨bx2, 0, none⟩)), (9, .int .i64 (k : Int))]) (by intro u; kernel_rfl) ?_
       refine SOps.nil (.inl rfl) ?_
       refine At.pick [0, 3, 5, 6, 72] (e' := [(0, .pointer (some ⟨q, 0, none⟩)), (3, .int .i64 (overI ov)), (5, .pointer (some ⟨bx1, 0, none⟩)), (6, .pointer (some ⟨bx2, 0, none⟩)), (72, .bool (decide ((k : Int) ≥ 0)))]) (by kernel_rfl) ?_
       refine At.split (fun zq => [(0, .pointer (some ⟨q, 0, none⟩)), (3, .int .i64 (overI ov)), (5, .pointer (some ⟨bx1, 0, none⟩)), (6, .pointer (some ⟨bx2, 0, none⟩)), (72, .bool zq)]) (decide ((k : Int) ≥ 0)) (fun hx8 => ?_) (fun hx8 => ?_)
       ·have hx8 : (k : Int) ≥ 0 := by simpa using hx8
        refine At.cond 300 true (c := .tmp 72) (k1 := pt7_15) (k2 := pt7_16) (by kernel_rfl) (by intro u; kernel_rfl) (fun _ => ?_) (fun h => by cases h)
        refine At.pick [] (e' := []) (by kernel_rfl) ?_
        refine At.region (ops := opt7_15) (m := 1) (k' := kt7_13) (by kernel_rfl) 300 (k'' := pt7_21) (by kernel_rfl) ?_
        refine SOps.pures 1 (i' := 1) (m' := 0) (e' := [(8, .int .i64 0)]) (by intro u; kernel_rfl) ?_
        refine SOps.nil (.inl rfl) ?_
        refine At.ret1 (fn := Try.f7) (v := .int .i64 0) (t := 8) (by kernel_rfl) Try.func7 (by kernel_rfl) (by kernel_rfl) (fun F w ho => ?_)
        have e1 : sendE l no tm ov = 0 := by unfold sendE; rw [if_neg (by simp [hbad]), hO] <;> first | rfl | (simp only []; rw [if_pos (by omega)]) | (simp only []; rw [if_neg (by omega)])
        have e2 : sendL l no tm ov = l := by unfold sendL; rw [if_neg (by simp [hbad]), hO] <;> first | rfl | (simp only []; rw [if_pos (by omega)]) | (simp only []; rw [if_neg (by omega)])
        have ho2 := QuC.close (l := l) (bv := bv) (by first | rfl | (simp; done)) [3, 0] rfl ho
        rw [e1, e2]
        exact shutV rfl [0] rfl ho2
       ·have hx8 : (k : Int) < 0 := by simpa using hx8
        exact absurd hx8 (by omega)
     ·have hx6 : (k : Int) < 0 := by simpa using hx6
      exact absurd hx6 (by omega)
theorem sendN (no tm ov : Int) : Ctr Try.prog 7 #[.pointer none, .int .i64 no, .int .i64 tm, .int .i64 ov] [] (fun v' => star (fact (v' = .int .i64 1) :: [])) false := by
 refine spec_of_at (fn := Try.f7) (c := bd7) (args := [.pointer none, .int .i64 no, .int .i64 tm, .int .i64 ov]) (n := 82) (e := [(0, .pointer none), (1, .int .i64 no), (2, .int .i64 tm), (3, .int .i64 ov)]) (k := pt7_0) Try.func7 (by kernel_rfl) (by kernel_rfl) (by kernel_rfl) (by kernel_rfl) 300 (by kernel_rfl) ?_
 refine At.region (ops := opt7_0) (m := 3) (k' := kt7_0) (by kernel_rfl) 300 (k'' := pt7_1) (by kernel_rfl) ?_
 refine SOps.o (Op.new 5 3 [.int .i64 no] (fun b => .pointer (some ⟨b, 0, none⟩)) (by intro u b; kernel_rfl) ?_)
 intro bx1
 refine SOps.o (Op.new 6 3 [.int .i64 tm] (fun b => .pointer (some ⟨b, 0, none⟩)) (by intro u b; kernel_rfl) ?_)
 intro bx2
 refine SOps.pures 1 (i' := 3) (m' := 0) (e' := [(8, .int .i64 0), (6, .pointer (some ⟨bx2, 0, none⟩)), (5, .pointer (some ⟨bx1, 0, none⟩)), (0, .pointer none), (1, .int .i64 no), (2, .int .i64 tm), (3, .int .i64 ov)]) (by intro u; kernel_rfl) ?_
 refine SOps.nil (.inl rfl) ?_
 refine At.pick [0, 3, 5, 6] (e' := [(0, .pointer none), (3, .int .i64 ov), (5, .pointer (some ⟨bx1, 0, none⟩)), (6, .pointer (some ⟨bx2, 0, none⟩))]) (by kernel_rfl) ?_
 refine At.region (ops := opt7_1) (m := 3) (k' := kt7_3) (by kernel_rfl) 300 (k'' := pt7_2) (by kernel_rfl) ?_
 refine SOps.pures 3 (i' := 3) (m' := 0) (e' := [(10, .bool true), (12, .bool true), (11, .pointer none), (0, .pointer none), (3, .int .i64 ov), (5, .pointer (some ⟨bx1, 0, none⟩)), (6, .pointer (some ⟨bx2, 0, none⟩))]) (by intro u; kernel_rfl) ?_
 refine SOps.nil (.inl rfl) ?_
 refine At.pick [0, 3, 5, 6, 10] (e' := [(0, .pointer none), (3, .int .i64 ov), (5, .pointer (some ⟨bx1, 0, none⟩)), (6, .pointer (some ⟨bx2, 0, none⟩)), (10, .bool true)]) (by kernel_rfl) ?_
 refine At.cond 300 true (c := .tmp 10) (k1 := pt7_3) (k2 := pt7_4) (by kernel_rfl) (by intro u; kernel_rfl) (fun _ => ?_) (fun h => by cases h)
 refine At.pick [] (e' := []) (by kernel_rfl) ?_
 refine At.region (ops := opt7_3) (m := 1) (k' := kt7_4) (by kernel_rfl) 300 (k'' := pt7_22) (by kernel_rfl) ?_
 refine SOps.pures 1 (i' := 1) (m' := 0) (e' := [(8, .int .i64 1)]) (by intro u; kernel_rfl) ?_
 refine SOps.nil (.inl rfl) ?_
 refine At.ret1 (fn := Try.f7) (v := .int .i64 1) (t := 8) (by kernel_rfl) Try.func7 (by kernel_rfl) (by kernel_rfl) (fun F w ho => ?_)
 exact shutV rfl [] rfl ho
end Go.Proofs.Sg
