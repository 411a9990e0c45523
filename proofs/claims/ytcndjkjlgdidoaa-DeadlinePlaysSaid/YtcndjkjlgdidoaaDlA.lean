/- Deadline: whether tasks may be. -/
import Derived.Test.YtcndjkjlgdidoaaDlM
import Derived.Test.YtcndjkjlgdidoaaProg
namespace Go.Proofs.Dl
open Go Go.Sp Go.Dl
set_option linter.unusedVariables false
set_option linter.unusedSimpArgs false
set_option linter.unnecessarySimpa false
set_option maxRecDepth 100000
theorem el_22 : ElemT Try.prog 22 35 3 24 [.int .i64 0, .int .i64 0, .int .i64 0] := ⟨by kernel_rfl, _, _, (by kernel_rfl : _ = some Try.t35), (by kernel_rfl : _ = some (.agg #[.int .i64 0, .int .i64 0, .int .i64 0])), by kernel_rfl, by kernel_rfl, rfl, rfl, by decide⟩
theorem el_24 : ElemT Try.prog 24 3 1 8 [.int .i64 0] := ⟨by kernel_rfl, _, _, (by kernel_rfl : _ = some Try.t3), (by kernel_rfl : _ = some (.int .i64 0)), by kernel_rfl, by kernel_rfl, rfl, rfl, by decide⟩
theorem el_31 : ElemT Try.prog 31 33 3 24 [.int .i64 0, .int .i64 0, .int .i64 0] := ⟨by kernel_rfl, _, _, (by kernel_rfl : _ = some Try.t33), (by kernel_rfl : _ = some (.agg #[.int .i64 0, .int .i64 0, .int .i64 0])), by kernel_rfl, by kernel_rfl, rfl, rfl, by decide⟩
noncomputable def bd8 : Code := (Try.f8.body).getD .skip
noncomputable def kt8_0 : List Item := .code (pick [1, 1] bd8) :: []
noncomputable def kt8_1 : List Item := .inBlock 0 :: kt8_0
noncomputable def kt8_2 : List Item := .inLoop (pick [1, 0, 1, 0, 0] bd8) :: kt8_1
noncomputable def kt8_3 : List Item := .code (pick [1, 0, 1, 0, 0, 1] bd8) :: kt8_2
noncomputable def pt8_0 : List Item := .code (pick [1, 0, 1, 0, 0, 0] bd8) :: kt8_3
noncomputable def opt8_0 : Array Oper := opsOf (pick [1, 0, 1, 0, 0, 0] bd8)
noncomputable def kt8_4 : List Item := .code (pick [1, 0, 1, 0, 0, 1, 1] bd8) :: kt8_2
noncomputable def pt8_1 : List Item := .code (pick [1, 0, 1, 0, 0, 1, 0] bd8) :: kt8_4
noncomputable def kt8_5 : List Item := .code (pick [1, 0, 1, 0, 0, 1, 1, 1] bd8) :: kt8_2
noncomputable def kt8_6 : List Item := .inBlock 1 :: kt8_5
noncomputable def kt8_7 : List Item := .code (pick [1, 0, 1, 0, 0, 1, 1, 0, 0, 1] bd8) :: kt8_6
noncomputable def pt8_2 : List Item := .code (pick [1, 0, 1, 0, 0, 1, 1, 0, 0, 0] bd8) :: kt8_7
noncomputable def opt8_2 : Array Oper := opsOf (pick [1, 0, 1, 0, 0, 1, 1, 0, 0, 0] bd8)
noncomputable def kt8_8 : List Item := .code (pick [1, 1, 1] bd8) :: []
noncomputable def pt8_3 : List Item := .code (pick [1, 1, 0] bd8) :: kt8_8
noncomputable def opt8_3 : Array Oper := opsOf (pick [1, 1, 0] bd8)
noncomputable def kt8_9 : List Item := .code (pick [1, 0, 1, 0, 0, 1, 1, 0, 0, 1, 1] bd8) :: kt8_6
noncomputable def pt8_4 : List Item := .code (pick [1, 0, 1, 0, 0, 1, 1, 0, 0, 1, 0] bd8) :: kt8_9
noncomputable def opt8_4 : Array Oper := opsOf (pick [1, 0, 1, 0, 0, 1, 1, 0, 0, 1, 0] bd8)
noncomputable def pt8_5 : List Item := .code (pick [1, 0, 1, 0, 0, 1, 1, 0, 0, 1, 1] bd8) :: kt8_6
noncomputable def kt8_10 : List Item := .code (pick [1, 0, 1, 0, 0, 1, 1, 0, 0, 1, 1, 0, 1] bd8) :: kt8_6
noncomputable def pt8_6 : List Item := .code (pick [1, 0, 1, 0, 0, 1, 1, 0, 0, 1, 1, 0, 0] bd8) :: kt8_10
noncomputable def opt8_6 : Array Oper := opsOf (pick [1, 0, 1, 0, 0, 1, 1, 0, 0, 1, 1, 0, 0] bd8)
noncomputable def pt8_7 : List Item := .code (pick [1, 0, 1, 0, 0, 1, 1, 1] bd8) :: kt8_2
noncomputable def opt8_7 : Array Oper := opsOf (pick [1, 0, 1, 0, 0, 1, 1, 1] bd8)
noncomputable def pt8_8 : List Item := .code (pick [1, 0, 1, 0, 0, 1, 1, 0, 0, 1, 1, 0, 1] bd8) :: kt8_6
noncomputable def pt8_9 : List Item := .code (pick [1, 1, 1] bd8) :: []
noncomputable def kt8_11 : List Item := .code (pick [1] bd8) :: []
noncomputable def pt8_10 : List Item := .code (pick [0] bd8) :: kt8_11
noncomputable def opt8_10 : Array Oper := opsOf (pick [0] bd8)
noncomputable def kt8_12 : List Item := .code (pick [1, 0, 1] bd8) :: kt8_0
noncomputable def pt8_11 : List Item := .code (pick [1, 0, 0] bd8) :: kt8_12
noncomputable def opt8_11 : Array Oper := opsOf (pick [1, 0, 0] bd8)
theorem right8_loop (B : Asn) (A : Option Addr) (l : List Task) (n c0 : Nat) (hl : l.length = n) (hB : InB B A (tasks l)) (hA : 0 < n → A = some ⟨blk A, ofs A, none⟩) (hn : n ≤ 1000000) : ∀ (m k : Nat), n - k < m → k ≤ n → (∀ i, i < k → okB (l.getD i t0) = true) → At ⟨Try.prog, 8, (fun v' => star (fact (v' = .bool (rightB l)) :: [B])), 50, false⟩ pt8_0 [(0, .slice A n c0), (5, .slice A n c0), (6, .int .i64 (n : Int)), (7, .int .i64 (k : Int))] [B] := by
 intro m
 induction m with
 | zero => intro k h; omega
 | succ m ih =>
  intro k hm hk ha
  refine At.region (ops := opt8_0) (m := 1) (k' := kt8_3) (by kernel_rfl) 300 (k'' := pt8_1) (by kernel_rfl) ?_
  refine SOps.pures 1 (i' := 1) (m' := 0) (e' := [(8, .bool (decide ((k : Int) < (n : Int)))), (0, .slice A n c0), (5, .slice A n c0), (6, .int .i64 (n : Int)), (7, .int .i64 (k : Int))]) (by intro u; kernel_rfl) ?_
  refine SOps.nil (.inl rfl) ?_
  refine At.pick [0, 5, 6, 7, 8] (e' := [(0, .slice A n c0), (5, .slice A n c0), (6, .int .i64 (n : Int)), (7, .int .i64 (k : Int)), (8, .bool (decide ((k : Int) < (n : Int))))]) (by kernel_rfl) ?_
  refine At.split (fun zq => [(0, .slice A n c0), (5, .slice A n c0), (6, .int .i64 (n : Int)), (7, .int .i64 (k : Int)), (8, .bool zq)]) (decide ((k : Int) < (n : Int))) (fun hx1 => ?_) (fun hx1 => ?_)
  ·have hx1 : (k : Int) < (n : Int) := by simpa using hx1
   refine At.cond 300 true (c := .tmp 8) (k1 := pt8_2) (k2 := pt8_3) (by kernel_rfl) (by intro u; kernel_rfl) (fun _ => ?_) (fun h => by cases h)
   refine At.pick [0, 5, 6, 7] (e' := [(0, .slice A n c0), (5, .slice A n c0), (6, .int .i64 (n : Int)), (7, .int .i64 (k : Int))]) (by kernel_rfl) ?_
   refine At.region (ops := opt8_2) (m := 4) (k' := kt8_7) (by kernel_rfl) 300 (k'' := pt8_4) (by kernel_rfl) ?_
   refine SOps.v (Val.pv 9 (vN (Instr.indexAt 22 (.slice A n c0) (.int .i64 (k : Int)))) (.pointer (some ⟨(blk A), ofs A + k * 3, none⟩)) (by intro u; kernel_rfl) (pv_indexO (el := 35) (sz := 3) (by kernel_rfl) (by kernel_rfl) (by omega) (by omega) (hA (by omega)) (by omega))) ?_
   refine SOps.v (Val.ldN 0 10 35 (blk A) (ofs A + k * 3) 3 [.int .i64 ((l.getD k t0).p), .int .i64 ((l.getD k t0).c), .int .i64 ((l.getD k t0).b)] rfl (by intro u; kernel_rfl) (by kernel_rfl) (by kernel_rfl) rfl ⟨(Rd.inB hB (flat_get encT 3 (fun _ => rfl) l k 0 (l.getD k t0) _ (getD_some (by omega)) rfl)), (Rd.inB hB (flat_get encT 3 (fun _ => rfl) l k 1 (l.getD k t0) _ (getD_some (by omega)) rfl)), (Rd.inB hB (flat_get encT 3 (fun _ => rfl) l k 2 (l.getD k t0) _ (getD_some (by omega)) rfl)), trivial⟩) ?_
   refine SOps.o (Op.new 4 35 [.int .i64 0, .int .i64 0, .int .i64 0] (fun b => .pointer (some ⟨b, 0, none⟩)) (by intro u b; kernel_rfl) ?_)
   intro bx2
   refine SOps.o (Op.st 0 35 bx2 0 (.agg #[.int .i64 ((l.getD k t0).p), .int .i64 ((l.getD k t0).c), .int .i64 ((l.getD k t0).b)]) [.int .i64 ((l.getD k t0).p), .int .i64 ((l.getD k t0).c), .int .i64 ((l.getD k t0).b)] 3 (B' := Cells bx2 35 [.int .i64 ((l.getD k t0).p), .int .i64 ((l.getD k t0).c), .int .i64 ((l.getD k t0).b)]) (A' := [Cells bx2 35 [.int .i64 ((l.getD k t0).p), .int .i64 ((l.getD k t0).c), .int .i64 ((l.getD k t0).b)], B]) rfl (by intro u; kernel_rfl) rfl (by kernel_rfl) rfl rfl (Wr.cells rfl rfl) rfl ?_)
   refine SOps.nil (.inl rfl) ?_
   refine At.pick [0, 4, 5, 6, 7] (e' := [(0, .slice A n c0), (4, .pointer (some ⟨bx2, 0, none⟩)), (5, .slice A n c0), (6, .int .i64 (n : Int)), (7, .int .i64 (k : Int))]) (by kernel_rfl) ?_
   refine At.region (ops := opt8_4) (m := 30) (k' := kt8_9) (by kernel_rfl) 300 (k'' := pt8_5) (by kernel_rfl) ?_
   refine SOps.pures 1 (i' := 1) (m' := 29) (e' := [(11, .pointer (some ⟨bx2, 0, none⟩)), (0, .slice A n c0), (4, .pointer (some ⟨bx2, 0, none⟩)), (5, .slice A n c0), (6, .int .i64 (n : Int)), (7, .int .i64 (k : Int))]) (by intro u; kernel_rfl) ?_
   refine SOps.v (Val.ld1 0 12 3 bx2 0 (.int .i64 ((l.getD k t0).p)) rfl (by intro u; kernel_rfl) (by kernel_rfl) (Rd.cells rfl)) ?_
   refine SOps.pures 2 (i' := 4) (m' := 26) (e' := [(14, .bool (decide (((l.getD k t0).p) < 1))), (13, .bool (decide (((l.getD k t0).p) < 1))), (12, .int .i64 ((l.getD k t0).p)), (11, .pointer (some ⟨bx2, 0, none⟩)), (0, .slice A n c0), (4, .pointer (some ⟨bx2, 0, none⟩)), (5, .slice A n c0), (6, .int .i64 (n : Int)), (7, .int .i64 (k : Int))]) (by intro u; kernel_rfl) ?_
   refine SOps.split (fun zq => [(14, .bool zq), (13, .bool zq), (12, .int .i64 ((l.getD k t0).p)), (11, .pointer (some ⟨bx2, 0, none⟩)), (0, .slice A n c0), (4, .pointer (some ⟨bx2, 0, none⟩)), (5, .slice A n c0), (6, .int .i64 (n : Int)), (7, .int .i64 (k : Int))]) (decide (((l.getD k t0).p) < 1)) (fun hx3 => ?_) (fun hx3 => ?_)
   ·have hx3 : (l.getD k t0).p < 1 := by simpa using hx3
    refine SOps.pures 26 (i' := 30) (m' := 0) (e' := [(40, .bool true), (39, .tuple #[]), (38, .tuple #[]), (37, .tuple #[]), (36, .bool true), (35, .bool true), (34, .tuple #[]), (33, .tuple #[]), (32, .tuple #[]), (31, .bool true), (30, .bool true), (29, .tuple #[]), (28, .tuple #[]), (27, .tuple #[]), (26, .tuple #[]), (25, .tuple #[]), (24, .bool true), (23, .bool true), (22, .tuple #[]), (21, .tuple #[]), (20, .tuple #[]), (19, .bool true), (18, .bool true), (17, .tuple #[]), (16, .tuple #[]), (15, .tuple #[]), (14, .bool true), (13, .bool true), (12, .int .i64 ((l.getD k t0).p)), (11, .pointer (some ⟨bx2, 0, none⟩)), (0, .slice A n c0), (4, .pointer (some ⟨bx2, 0, none⟩)), (5, .slice A n c0), (6, .int .i64 (n : Int)), (7, .int .i64 (k : Int))]) (by intro u; kernel_rfl) ?_
    refine SOps.nil (.inl rfl) ?_
    refine At.pick [0, 5, 6, 7, 40] (e' := [(0, .slice A n c0), (5, .slice A n c0), (6, .int .i64 (n : Int)), (7, .int .i64 (k : Int)), (40, .bool true)]) (by kernel_rfl) ?_
    refine At.cond 300 true (c := .tmp 40) (k1 := pt8_6) (k2 := pt8_7) (by kernel_rfl) (by intro u; kernel_rfl) (fun _ => ?_) (fun h => by cases h)
    refine At.pick [] (e' := []) (by kernel_rfl) ?_
    refine At.region (ops := opt8_6) (m := 1) (k' := kt8_10) (by kernel_rfl) 300 (k'' := pt8_8) (by kernel_rfl) ?_
    refine SOps.pures 1 (i' := 1) (m' := 0) (e' := [(2, .bool false)]) (by intro u; kernel_rfl) ?_
    refine SOps.nil (.inl rfl) ?_
    refine At.ret1 (fn := Try.f8) (v := .bool false) (t := 2) (by kernel_rfl) Try.func8 (by kernel_rfl) (by kernel_rfl) (fun F w ho => ?_)
    exact shutV (by rw [rightB_no hl (k := k) (by omega) (by unfold okB; simp only [decide_eq_false_iff_not]; omega)]) [1] rfl ho
   ·have hx3 : (l.getD k t0).p ≥ 1 := by simpa using hx3
    refine SOps.pures 1 (i' := 5) (m' := 25) (e' := [(15, .pointer (some ⟨bx2, 0, none⟩)), (14, .bool false), (13, .bool false), (12, .int .i64 ((l.getD k t0).p)), (11, .pointer (some ⟨bx2, 0, none⟩)), (0, .slice A n c0), (4, .pointer (some ⟨bx2, 0, none⟩)), (5, .slice A n c0), (6, .int .i64 (n : Int)), (7, .int .i64 (k : Int))]) (by intro u; kernel_rfl) ?_
    refine SOps.v (Val.ld1 0 16 3 bx2 0 (.int .i64 ((l.getD k t0).p)) rfl (by intro u; kernel_rfl) (by kernel_rfl) (Rd.cells rfl)) ?_
    refine SOps.pures 3 (i' := 9) (m' := 21) (e' := [(19, .bool (decide (((l.getD k t0).p) > 1000))), (18, .bool (decide (((l.getD k t0).p) > 1000))), (17, .bool (decide (((l.getD k t0).p) > 1000))), (16, .int .i64 ((l.getD k t0).p)), (15, .pointer (some ⟨bx2, 0, none⟩)), (14, .bool false), (13, .bool false), (12, .int .i64 ((l.getD k t0).p)), (11, .pointer (some ⟨bx2, 0, none⟩)), (0, .slice A n c0), (4, .pointer (some ⟨bx2, 0, none⟩)), (5, .slice A n c0), (6, .int .i64 (n : Int)), (7, .int .i64 (k : Int))]) (by intro u; kernel_rfl) ?_
    refine SOps.split (fun zq => [(19, .bool zq), (18, .bool zq), (17, .bool zq), (16, .int .i64 ((l.getD k t0).p)), (15, .pointer (some ⟨bx2, 0, none⟩)), (14, .bool false), (13, .bool false), (12, .int .i64 ((l.getD k t0).p)), (11, .pointer (some ⟨bx2, 0, none⟩)), (0, .slice A n c0), (4, .pointer (some ⟨bx2, 0, none⟩)), (5, .slice A n c0), (6, .int .i64 (n : Int)), (7, .int .i64 (k : Int))]) (decide (((l.getD k t0).p) > 1000)) (fun hx4 => ?_) (fun hx4 => ?_)
    ·have hx4 : (l.getD k t0).p > 1000 := by simpa using hx4
     refine SOps.pures 21 (i' := 30) (m' := 0) (e' := [(40, .bool true), (39, .tuple #[]), (38, .tuple #[]), (37, .tuple #[]), (36, .bool true), (35, .bool true), (34, .tuple #[]), (33, .tuple #[]), (32, .tuple #[]), (31, .bool true), (30, .bool true), (29, .tuple #[]), (28, .tuple #[]), (27, .tuple #[]), (26, .tuple #[]), (25, .tuple #[]), (24, .bool true), (23, .bool true), (22, .tuple #[]), (21, .tuple #[]), (20, .tuple #[]), (19, .bool true), (18, .bool true), (17, .bool true), (16, .int .i64 ((l.getD k t0).p)), (15, .pointer (some ⟨bx2, 0, none⟩)), (14, .bool false), (13, .bool false), (12, .int .i64 ((l.getD k t0).p)), (11, .pointer (some ⟨bx2, 0, none⟩)), (0, .slice A n c0), (4, .pointer (some ⟨bx2, 0, none⟩)), (5, .slice A n c0), (6, .int .i64 (n : Int)), (7, .int .i64 (k : Int))]) (by intro u; kernel_rfl) ?_
     refine SOps.nil (.inl rfl) ?_
     refine At.pick [0, 5, 6, 7, 40] (e' := [(0, .slice A n c0), (5, .slice A n c0), (6, .int .i64 (n : Int)), (7, .int .i64 (k : Int)), (40, .bool true)]) (by kernel_rfl) ?_
     refine At.cond 300 true (c := .tmp 40) (k1 := pt8_6) (k2 := pt8_7) (by kernel_rfl) (by intro u; kernel_rfl) (fun _ => ?_) (fun h => by cases h)
     refine At.pick [] (e' := []) (by kernel_rfl) ?_
     refine At.region (ops := opt8_6) (m := 1) (k' := kt8_10) (by kernel_rfl) 300 (k'' := pt8_8) (by kernel_rfl) ?_
     refine SOps.pures 1 (i' := 1) (m' := 0) (e' := [(2, .bool false)]) (by intro u; kernel_rfl) ?_
     refine SOps.nil (.inl rfl) ?_
     refine At.ret1 (fn := Try.f8) (v := .bool false) (t := 2) (by kernel_rfl) Try.func8 (by kernel_rfl) (by kernel_rfl) (fun F w ho => ?_)
     exact shutV (by rw [rightB_no hl (k := k) (by omega) (by unfold okB; simp only [decide_eq_false_iff_not]; omega)]) [1] rfl ho
    ·have hx4 : (l.getD k t0).p ≤ 1000 := by simpa using hx4
     refine SOps.pures 1 (i' := 10) (m' := 20) (e' := [(20, .pointer (some ⟨bx2, 1, none⟩)), (19, .bool false), (18, .bool false), (17, .bool false), (16, .int .i64 ((l.getD k t0).p)), (15, .pointer (some ⟨bx2, 0, none⟩)), (14, .bool false), (13, .bool false), (12, .int .i64 ((l.getD k t0).p)), (11, .pointer (some ⟨bx2, 0, none⟩)), (0, .slice A n c0), (4, .pointer (some ⟨bx2, 0, none⟩)), (5, .slice A n c0), (6, .int .i64 (n : Int)), (7, .int .i64 (k : Int))]) (by intro u; kernel_rfl) ?_
     refine SOps.v (Val.ld1 0 21 3 bx2 1 (.int .i64 ((l.getD k t0).c)) rfl (by intro u; kernel_rfl) (by kernel_rfl) (Rd.cells rfl)) ?_
     refine SOps.pures 3 (i' := 14) (m' := 16) (e' := [(24, .bool (decide (((l.getD k t0).c) < 1))), (23, .bool (decide (((l.getD k t0).c) < 1))), (22, .bool (decide (((l.getD k t0).c) < 1))), (21, .int .i64 ((l.getD k t0).c)), (20, .pointer (some ⟨bx2, 1, none⟩)), (19, .bool false), (18, .bool false), (17, .bool false), (16, .int .i64 ((l.getD k t0).p)), (15, .pointer (some ⟨bx2, 0, none⟩)), (14, .bool false), (13, .bool false), (12, .int .i64 ((l.getD k t0).p)), (11, .pointer (some ⟨bx2, 0, none⟩)), (0, .slice A n c0), (4, .pointer (some ⟨bx2, 0, none⟩)), (5, .slice A n c0), (6, .int .i64 (n : Int)), (7, .int .i64 (k : Int))]) (by intro u; kernel_rfl) ?_
     refine SOps.split (fun zq => [(24, .bool zq), (23, .bool zq), (22, .bool zq), (21, .int .i64 ((l.getD k t0).c)), (20, .pointer (some ⟨bx2, 1, none⟩)), (19, .bool false), (18, .bool false), (17, .bool false), (16, .int .i64 ((l.getD k t0).p)), (15, .pointer (some ⟨bx2, 0, none⟩)), (14, .bool false), (13, .bool false), (12, .int .i64 ((l.getD k t0).p)), (11, .pointer (some ⟨bx2, 0, none⟩)), (0, .slice A n c0), (4, .pointer (some ⟨bx2, 0, none⟩)), (5, .slice A n c0), (6, .int .i64 (n : Int)), (7, .int .i64 (k : Int))]) (decide (((l.getD k t0).c) < 1)) (fun hx5 => ?_) (fun hx5 => ?_)
     ·have hx5 : (l.getD k t0).c < 1 := by simpa using hx5
      refine SOps.pures 16 (i' := 30) (m' := 0) (e' := [(40, .bool true), (39, .tuple #[]), (38, .tuple #[]), (37, .tuple #[]), (36, .bool true), (35, .bool true), (34, .tuple #[]), (33, .tuple #[]), (32, .tuple #[]), (31, .bool true), (30, .bool true), (29, .tuple #[]), (28, .tuple #[]), (27, .tuple #[]), (26, .tuple #[]), (25, .tuple #[]), (24, .bool true), (23, .bool true), (22, .bool true), (21, .int .i64 ((l.getD k t0).c)), (20, .pointer (some ⟨bx2, 1, none⟩)), (19, .bool false), (18, .bool false), (17, .bool false), (16, .int .i64 ((l.getD k t0).p)), (15, .pointer (some ⟨bx2, 0, none⟩)), (14, .bool false), (13, .bool false), (12, .int .i64 ((l.getD k t0).p)), (11, .pointer (some ⟨bx2, 0, none⟩)), (0, .slice A n c0), (4, .pointer (some ⟨bx2, 0, none⟩)), (5, .slice A n c0), (6, .int .i64 (n : Int)), (7, .int .i64 (k : Int))]) (by intro u; kernel_rfl) ?_
      refine SOps.nil (.inl rfl) ?_
      refine At.pick [0, 5, 6, 7, 40] (e' := [(0, .slice A n c0), (5, .slice A n c0), (6, .int .i64 (n : Int)), (7, .int .i64 (k : Int)), (40, .bool true)]) (by kernel_rfl) ?_
      refine At.cond 300 true (c := .tmp 40) (k1 := pt8_6) (k2 := pt8_7) (by kernel_rfl) (by intro u; kernel_rfl) (fun _ => ?_) (fun h => by cases h)
      refine At.pick [] (e' := []) (by kernel_rfl) ?_
      refine At.region (ops := opt8_6) (m := 1) (k' := kt8_10) (by kernel_rfl) 300 (k'' := pt8_8) (by kernel_rfl) ?_
      refine SOps.pures 1 (i' := 1) (m' := 0) (e' := [(2, .bool false)]) (by intro u; kernel_rfl) ?_
      refine SOps.nil (.inl rfl) ?_
      refine At.ret1 (fn := Try.f8) (v := .bool false) (t := 2) (by kernel_rfl) Try.func8 (by kernel_rfl) (by kernel_rfl) (fun F w ho => ?_)
      exact shutV (by rw [rightB_no hl (k := k) (by omega) (by unfold okB; simp only [decide_eq_false_iff_not]; omega)]) [1] rfl ho
     ·have hx5 : (l.getD k t0).c ≥ 1 := by simpa using hx5
      refine SOps.pures 1 (i' := 15) (m' := 15) (e' := [(25, .pointer (some ⟨bx2, 1, none⟩)), (24, .bool false), (23, .bool false), (22, .bool false), (21, .int .i64 ((l.getD k t0).c)), (20, .pointer (some ⟨bx2, 1, none⟩)), (19, .bool false), (18, .bool false), (17, .bool false), (16, .int .i64 ((l.getD k t0).p)), (15, .pointer (some ⟨bx2, 0, none⟩)), (14, .bool false), (13, .bool false), (12, .int .i64 ((l.getD k t0).p)), (11, .pointer (some ⟨bx2, 0, none⟩)), (0, .slice A n c0), (4, .pointer (some ⟨bx2, 0, none⟩)), (5, .slice A n c0), (6, .int .i64 (n : Int)), (7, .int .i64 (k : Int))]) (by intro u; kernel_rfl) ?_
      refine SOps.v (Val.ld1 0 26 3 bx2 1 (.int .i64 ((l.getD k t0).c)) rfl (by intro u; kernel_rfl) (by kernel_rfl) (Rd.cells rfl)) ?_
      refine SOps.pures 1 (i' := 17) (m' := 13) (e' := [(27, .pointer (some ⟨bx2, 0, none⟩)), (26, .int .i64 ((l.getD k t0).c)), (25, .pointer (some ⟨bx2, 1, none⟩)), (24, .bool false), (23, .bool false), (22, .bool false), (21, .int .i64 ((l.getD k t0).c)), (20, .pointer (some ⟨bx2, 1, none⟩)), (19, .bool false), (18, .bool false), (17, .bool false), (16, .int .i64 ((l.getD k t0).p)), (15, .pointer (some ⟨bx2, 0, none⟩)), (14, .bool false), (13, .bool false), (12, .int .i64 ((l.getD k t0).p)), (11, .pointer (some ⟨bx2, 0, none⟩)), (0, .slice A n c0), (4, .pointer (some ⟨bx2, 0, none⟩)), (5, .slice A n c0), (6, .int .i64 (n : Int)), (7, .int .i64 (k : Int))]) (by intro u; kernel_rfl) ?_
      refine SOps.v (Val.ld1 0 28 3 bx2 0 (.int .i64 ((l.getD k t0).p)) rfl (by intro u; kernel_rfl) (by kernel_rfl) (Rd.cells rfl)) ?_
      refine SOps.pures 3 (i' := 21) (m' := 9) (e' := [(31, .bool (decide (((l.getD k t0).c) > ((l.getD k t0).p)))), (30, .bool (decide (((l.getD k t0).c) > ((l.getD k t0).p)))), (29, .bool (decide (((l.getD k t0).c) > ((l.getD k t0).p)))), (28, .int .i64 ((l.getD k t0).p)), (27, .pointer (some ⟨bx2, 0, none⟩)), (26, .int .i64 ((l.getD k t0).c)), (25, .pointer (some ⟨bx2, 1, none⟩)), (24, .bool false), (23, .bool false), (22, .bool false), (21, .int .i64 ((l.getD k t0).c)), (20, .pointer (some ⟨bx2, 1, none⟩)), (19, .bool false), (18, .bool false), (17, .bool false), (16, .int .i64 ((l.getD k t0).p)), (15, .pointer (some ⟨bx2, 0, none⟩)), (14, .bool false), (13, .bool false), (12, .int .i64 ((l.getD k t0).p)), (11, .pointer (some ⟨bx2, 0, none⟩)), (0, .slice A n c0), (4, .pointer (some ⟨bx2, 0, none⟩)), (5, .slice A n c0), (6, .int .i64 (n : Int)), (7, .int .i64 (k : Int))]) (by intro u; kernel_rfl) ?_
      refine SOps.split (fun zq => [(31, .bool zq), (30, .bool zq), (29, .bool zq), (28, .int .i64 ((l.getD k t0).p)), (27, .pointer (some ⟨bx2, 0, none⟩)), (26, .int .i64 ((l.getD k t0).c)), (25, .pointer (some ⟨bx2, 1, none⟩)), (24, .bool false), (23, .bool false), (22, .bool false), (21, .int .i64 ((l.getD k t0).c)), (20, .pointer (some ⟨bx2, 1, none⟩)), (19, .bool false), (18, .bool false), (17, .bool false), (16, .int .i64 ((l.getD k t0).p)), (15, .pointer (some ⟨bx2, 0, none⟩)), (14, .bool false), (13, .bool false), (12, .int .i64 ((l.getD k t0).p)), (11, .pointer (some ⟨bx2, 0, none⟩)), (0, .slice A n c0), (4, .pointer (some ⟨bx2, 0, none⟩)), (5, .slice A n c0), (6, .int .i64 (n : Int)), (7, .int .i64 (k : Int))]) (decide (((l.getD k t0).c) > ((l.getD k t0).p))) (fun hx6 => ?_) (fun hx6 => ?_)
      ·have hx6 : (l.getD k t0).c > (l.getD k t0).p := by simpa using hx6
       refine SOps.pures 9 (i' := 30) (m' := 0) (e' := [(40, .bool true), (39, .tuple #[]), (38, .tuple #[]), (37, .tuple #[]), (36, .bool true), (35, .bool true), (34, .tuple #[]), (33, .tuple #[]), (32, .tuple #[]), (31, .bool true), (30, .bool true), (29, .bool true), (28, .int .i64 ((l.getD k t0).p)), (27, .pointer (some ⟨bx2, 0, none⟩)), (26, .int .i64 ((l.getD k t0).c)), (25, .pointer (some ⟨bx2, 1, none⟩)), (24, .bool false), (23, .bool false), (22, .bool false), (21, .int .i64 ((l.getD k t0).c)), (20, .pointer (some ⟨bx2, 1, none⟩)), (19, .bool false), (18, .bool false), (17, .bool false), (16, .int .i64 ((l.getD k t0).p)), (15, .pointer (some ⟨bx2, 0, none⟩)), (14, .bool false), (13, .bool false), (12, .int .i64 ((l.getD k t0).p)), (11, .pointer (some ⟨bx2, 0, none⟩)), (0, .slice A n c0), (4, .pointer (some ⟨bx2, 0, none⟩)), (5, .slice A n c0), (6, .int .i64 (n : Int)), (7, .int .i64 (k : Int))]) (by intro u; kernel_rfl) ?_
       refine SOps.nil (.inl rfl) ?_
       refine At.pick [0, 5, 6, 7, 40] (e' := [(0, .slice A n c0), (5, .slice A n c0), (6, .int .i64 (n : Int)), (7, .int .i64 (k : Int)), (40, .bool true)]) (by kernel_rfl) ?_
       refine At.cond 300 true (c := .tmp 40) (k1 := pt8_6) (k2 := pt8_7) (by kernel_rfl) (by intro u; kernel_rfl) (fun _ => ?_) (fun h => by cases h)
       refine At.pick [] (e' := []) (by kernel_rfl) ?_
       refine At.region (ops := opt8_6) (m := 1) (k' := kt8_10) (by kernel_rfl) 300 (k'' := pt8_8) (by kernel_rfl) ?_
       refine SOps.pures 1 (i' := 1) (m' := 0) (e' := [(2, .bool false)]) (by intro u; kernel_rfl) ?_
       refine SOps.nil (.inl rfl) ?_
       refine At.ret1 (fn := Try.f8) (v := .bool false) (t := 2) (by kernel_rfl) Try.func8 (by kernel_rfl) (by kernel_rfl) (fun F w ho => ?_)
       exact shutV (by rw [rightB_no hl (k := k) (by omega) (by unfold okB; simp only [decide_eq_false_iff_not]; omega)]) [1] rfl ho
      ·have hx6 : (l.getD k t0).c ≤ (l.getD k t0).p := by simpa using hx6
       refine SOps.pures 1 (i' := 22) (m' := 8) (e' := [(32, .pointer (some ⟨bx2, 2, none⟩)), (31, .bool false), (30, .bool false), (29, .bool false), (28, .int .i64 ((l.getD k t0).p)), (27, .pointer (some ⟨bx2, 0, none⟩)), (26, .int .i64 ((l.getD k t0).c)), (25, .pointer (some ⟨bx2, 1, none⟩)), (24, .bool false), (23, .bool false), (22, .bool false), (21, .int .i64 ((l.getD k t0).c)), (20, .pointer (some ⟨bx2, 1, none⟩)), (19, .bool false), (18, .bool false), (17, .bool false), (16, .int .i64 ((l.getD k t0).p)), (15, .pointer (some ⟨bx2, 0, none⟩)), (14, .bool false), (13, .bool false), (12, .int .i64 ((l.getD k t0).p)), (11, .pointer (some ⟨bx2, 0, none⟩)), (0, .slice A n c0), (4, .pointer (some ⟨bx2, 0, none⟩)), (5, .slice A n c0), (6, .int .i64 (n : Int)), (7, .int .i64 (k : Int))]) (by intro u; kernel_rfl) ?_
       refine SOps.v (Val.ld1 0 33 3 bx2 2 (.int .i64 ((l.getD k t0).b)) rfl (by intro u; kernel_rfl) (by kernel_rfl) (Rd.cells rfl)) ?_
       refine SOps.pures 3 (i' := 26) (m' := 4) (e' := [(36, .bool (decide (((l.getD k t0).b) < 0))), (35, .bool (decide (((l.getD k t0).b) < 0))), (34, .bool (decide (((l.getD k t0).b) < 0))), (33, .int .i64 ((l.getD k t0).b)), (32, .pointer (some ⟨bx2, 2, none⟩)), (31, .bool false), (30, .bool false), (29, .bool false), (28, .int .i64 ((l.getD k t0).p)), (27, .pointer (some ⟨bx2, 0, none⟩)), (26, .int .i64 ((l.getD k t0).c)), (25, .pointer (some ⟨bx2, 1, none⟩)), (24, .bool false), (23, .bool false), (22, .bool false), (21, .int .i64 ((l.getD k t0).c)), (20, .pointer (some ⟨bx2, 1, none⟩)), (19, .bool false), (18, .bool false), (17, .bool false), (16, .int .i64 ((l.getD k t0).p)), (15, .pointer (some ⟨bx2, 0, none⟩)), (14, .bool false), (13, .bool false), (12, .int .i64 ((l.getD k t0).p)), (11, .pointer (some ⟨bx2, 0, none⟩)), (0, .slice A n c0), (4, .pointer (some ⟨bx2, 0, none⟩)), (5, .slice A n c0), (6, .int .i64 (n : Int)), (7, .int .i64 (k : Int))]) (by intro u; kernel_rfl) ?_
       refine SOps.split (fun zq => [(36, .bool zq), (35, .bool zq), (34, .bool zq), (33, .int .i64 ((l.getD k t0).b)), (32, .pointer (some ⟨bx2, 2, none⟩)), (31, .bool false), (30, .bool false), (29, .bool false), (28, .int .i64 ((l.getD k t0).p)), (27, .pointer (some ⟨bx2, 0, none⟩)), (26, .int .i64 ((l.getD k t0).c)), (25, .pointer (some ⟨bx2, 1, none⟩)), (24, .bool false), (23, .bool false), (22, .bool false), (21, .int .i64 ((l.getD k t0).c)), (20, .pointer (some ⟨bx2, 1, none⟩)), (19, .bool false), (18, .bool false), (17, .bool false), (16, .int .i64 ((l.getD k t0).p)), (15, .pointer (some ⟨bx2, 0, none⟩)), (14, .bool false), (13, .bool false), (12, .int .i64 ((l.getD k t0).p)), (11, .pointer (some ⟨bx2, 0, none⟩)), (0, .slice A n c0), (4, .pointer (some ⟨bx2, 0, none⟩)), (5, .slice A n c0), (6, .int .i64 (n : Int)), (7, .int .i64 (k : Int))]) (decide (((l.getD k t0).b) < 0)) (fun hx7 => ?_) (fun hx7 => ?_)
       ·have hx7 : (l.getD k t0).b < 0 := by simpa using hx7
        refine SOps.pures 4 (i' := 30) (m' := 0) (e' := [(40, .bool true), (39, .tuple #[]), (38, .tuple #[]), (37, .tuple #[]), (36, .bool true), (35, .bool true), (34, .bool true), (33, .int .i64 ((l.getD k t0).b)), (32, .pointer (some ⟨bx2, 2, none⟩)), (31, .bool false), (30, .bool false), (29, .bool false), (28, .int .i64 ((l.getD k t0).p)), (27, .pointer (some ⟨bx2, 0, none⟩)), (26, .int .i64 ((l.getD k t0).c)), (25, .pointer (some ⟨bx2, 1, none⟩)), (24, .bool false), (23, .bool false), (22, .bool false), (21, .int .i64 ((l.getD k t0).c)), (20, .pointer (some ⟨bx2, 1, none⟩)), (19, .bool false), (18, .bool false), (17, .bool false), (16, .int .i64 ((l.getD k t0).p)), (15, .pointer (some ⟨bx2, 0, none⟩)), (14, .bool false), (13, .bool false), (12, .int .i64 ((l.getD k t0).p)), (11, .pointer (some ⟨bx2, 0, none⟩)), (0, .slice A n c0), (4, .pointer (some ⟨bx2, 0, none⟩)), (5, .slice A n c0), (6, .int .i64 (n : Int)), (7, .int .i64 (k : Int))]) (by intro u; kernel_rfl) ?_
        refine SOps.nil (.inl rfl) ?_
        refine At.pick [0, 5, 6, 7, 40] (e' := [(0, .slice A n c0), (5, .slice A n c0), (6, .int .i64 (n : Int)), (7, .int .i64 (k : Int)), (40, .bool true)]) (by kernel_rfl) ?_
        refine At.cond 300 true (c := .tmp 40) (k1 := pt8_6) (k2 := pt8_7) (by kernel_rfl) (by intro u; kernel_rfl) (fun _ => ?_) (fun h => by cases h)
        refine At.pick [] (e' := []) (by kernel_rfl) ?_
        refine At.region (ops := opt8_6) (m := 1) (k' := kt8_10) (by kernel_rfl) 300 (k'' := pt8_8) (by kernel_rfl) ?_
        refine SOps.pures 1 (i' := 1) (m' := 0) (e' := [(2, .bool false)]) (by intro u; kernel_rfl) ?_
        refine SOps.nil (.inl rfl) ?_
        refine At.ret1 (fn := Try.f8) (v := .bool false) (t := 2) (by kernel_rfl) Try.func8 (by kernel_rfl) (by kernel_rfl) (fun F w ho => ?_)
        exact shutV (by rw [rightB_no hl (k := k) (by omega) (by unfold okB; simp only [decide_eq_false_iff_not]; omega)]) [1] rfl ho
       ·have hx7 : (l.getD k t0).b ≥ 0 := by simpa using hx7
        refine SOps.pures 1 (i' := 27) (m' := 3) (e' := [(37, .pointer (some ⟨bx2, 2, none⟩)), (36, .bool false), (35, .bool false), (34, .bool false), (33, .int .i64 ((l.getD k t0).b)), (32, .pointer (some ⟨bx2, 2, none⟩)), (31, .bool false), (30, .bool false), (29, .bool false), (28, .int .i64 ((l.getD k t0).p)), (27, .pointer (some ⟨bx2, 0, none⟩)), (26, .int .i64 ((l.getD k t0).c)), (25, .pointer (some ⟨bx2, 1, none⟩)), (24, .bool false), (23, .bool false), (22, .bool false), (21, .int .i64 ((l.getD k t0).c)), (20, .pointer (some ⟨bx2, 1, none⟩)), (19, .bool false), (18, .bool false), (17, .bool false), (16, .int .i64 ((l.getD k t0).p)), (15, .pointer (some ⟨bx2, 0, none⟩)), (14, .bool false), (13, .bool false), (12, .int .i64 ((l.getD k t0).p)), (11, .pointer (some ⟨bx2, 0, none⟩)), (0, .slice A n c0), (4, .pointer (some ⟨bx2, 0, none⟩)), (5, .slice A n c0), (6, .int .i64 (n : Int)), (7, .int .i64 (k : Int))]) (by intro u; kernel_rfl) ?_
        refine SOps.v (Val.ld1 0 38 3 bx2 2 (.int .i64 ((l.getD k t0).b)) rfl (by intro u; kernel_rfl) (by kernel_rfl) (Rd.cells rfl)) ?_
        refine SOps.pures 2 (i' := 30) (m' := 0) (e' := [(40, .bool (decide (((l.getD k t0).b) > 1000))), (39, .bool (decide (((l.getD k t0).b) > 1000))), (38, .int .i64 ((l.getD k t0).b)), (37, .pointer (some ⟨bx2, 2, none⟩)), (36, .bool false), (35, .bool false), (34, .bool false), (33, .int .i64 ((l.getD k t0).b)), (32, .pointer (some ⟨bx2, 2, none⟩)), (31, .bool false), (30, .bool false), (29, .bool false), (28, .int .i64 ((l.getD k t0).p)), (27, .pointer (some ⟨bx2, 0, none⟩)), (26, .int .i64 ((l.getD k t0).c)), (25, .pointer (some ⟨bx2, 1, none⟩)), (24, .bool false), (23, .bool false), (22, .bool false), (21, .int .i64 ((l.getD k t0).c)), (20, .pointer (some ⟨bx2, 1, none⟩)), (19, .bool false), (18, .bool false), (17, .bool false), (16, .int .i64 ((l.getD k t0).p)), (15, .pointer (some ⟨bx2, 0, none⟩)), (14, .bool false), (13, .bool false), (12, .int .i64 ((l.getD k t0).p)), (11, .pointer (some ⟨bx2, 0, none⟩)), (0, .slice A n c0), (4, .pointer (some ⟨bx2, 0, none⟩)), (5, .slice A n c0), (6, .int .i64 (n : Int)), (7, .int .i64 (k : Int))]) (by intro u; kernel_rfl) ?_
        refine SOps.nil (.inl rfl) ?_
        refine At.pick [0, 5, 6, 7, 40] (e' := [(0, .slice A n c0), (5, .slice A n c0), (6, .int .i64 (n : Int)), (7, .int .i64 (k : Int)), (40, .bool (decide (((l.getD k t0).b) > 1000)))]) (by kernel_rfl) ?_
        refine At.split (fun zq => [(0, .slice A n c0), (5, .slice A n c0), (6, .int .i64 (n : Int)), (7, .int .i64 (k : Int)), (40, .bool zq)]) (decide (((l.getD k t0).b) > 1000)) (fun hx8 => ?_) (fun hx8 => ?_)
        ·have hx8 : (l.getD k t0).b > 1000 := by simpa using hx8
         refine At.cond 300 true (c := .tmp 40) (k1 := pt8_6) (k2 := pt8_7) (by kernel_rfl) (by intro u; kernel_rfl) (fun _ => ?_) (fun h => by cases h)
         refine At.pick [] (e' := []) (by kernel_rfl) ?_
         refine At.region (ops := opt8_6) (m := 1) (k' := kt8_10) (by kernel_rfl) 300 (k'' := pt8_8) (by kernel_rfl) ?_
         refine SOps.pures 1 (i' := 1) (m' := 0) (e' := [(2, .bool false)]) (by intro u; kernel_rfl) ?_
         refine SOps.nil (.inl rfl) ?_
         refine At.ret1 (fn := Try.f8) (v := .bool false) (t := 2) (by kernel_rfl) Try.func8 (by kernel_rfl) (by kernel_rfl) (fun F w ho => ?_)
         exact shutV (by rw [rightB_no hl (k := k) (by omega) (by unfold okB; simp only [decide_eq_false_iff_not]; omega)]) [1] rfl ho
        ·have hx8 : (l.getD k t0).b ≤ 1000 := by simpa using hx8
         refine At.cond 300 false (c := .tmp 40) (k1 := pt8_6) (k2 := pt8_7) (by kernel_rfl) (by intro u; kernel_rfl) (fun h => by cases h) (fun _ => ?_)
         refine At.pick [0, 5, 6, 7] (e' := [(0, .slice A n c0), (5, .slice A n c0), (6, .int .i64 (n : Int)), (7, .int .i64 (k : Int))]) (by kernel_rfl) ?_
         refine At.region (ops := opt8_7) (m := 2) (k' := kt8_2) (by kernel_rfl) 300 (k'' := pt8_0) (by kernel_rfl) ?_
         refine SOps.v (Val.pe 41 (.int .i64 (IntKind.i64.wrap ((k : Int) + 1))) (.int .i64 (((k + 1 : Nat) : Int))) (by intro u; kernel_rfl) (i64_in (by omega) (by omega) (by omega))) ?_
         refine SOps.pures 1 (i' := 2) (m' := 0) (e' := [(7, .int .i64 (((k + 1 : Nat) : Int))), (41, .int .i64 (((k + 1 : Nat) : Int))), (0, .slice A n c0), (5, .slice A n c0), (6, .int .i64 (n : Int)), (7, .int .i64 (k : Int))]) (by intro u; kernel_rfl) ?_
         refine SOps.nil (.inl rfl) ?_
         refine At.pick [0, 5, 6, 7] (e' := [(0, .slice A n c0), (5, .slice A n c0), (6, .int .i64 (n : Int)), (7, .int .i64 (((k + 1 : Nat) : Int)))]) (by kernel_rfl) ?_
         refine At.keep [1] (B := [B]) (D := [Cells bx2 35 [.int .i64 ((l.getD k t0).p), .int .i64 ((l.getD k t0).c), .int .i64 ((l.getD k t0).b)]]) rfl ?_
         refine ih (k + 1) (by omega) (by omega) (fun i hi => ?_)
         by_cases hik : i = k
         · subst hik; unfold okB; simp only [decide_eq_true_eq]; omega
         · exact ha i (by omega)
  ·have hx1 : (k : Int) ≥ (n : Int) := by simpa using hx1
   refine At.cond 300 false (c := .tmp 8) (k1 := pt8_2) (k2 := pt8_3) (by kernel_rfl) (by intro u; kernel_rfl) (fun h => by cases h) (fun _ => ?_)
   refine At.pick [0] (e' := [(0, .slice A n c0)]) (by kernel_rfl) ?_
   refine At.region (ops := opt8_3) (m := 9) (k' := kt8_8) (by kernel_rfl) 300 (k'' := pt8_9) (by kernel_rfl) ?_
   refine SOps.pures 4 (i' := 4) (m' := 5) (e' := [(45, .bool (decide ((n : Int) ≥ 1))), (44, .bool (decide ((n : Int) ≥ 1))), (43, .int .i64 (n : Int)), (42, .slice A n c0), (0, .slice A n c0)]) (by intro u; kernel_rfl) ?_
   refine SOps.split (fun zq => [(45, .bool zq), (44, .bool zq), (43, .int .i64 (n : Int)), (42, .slice A n c0), (0, .slice A n c0)]) (decide ((n : Int) ≥ 1)) (fun hx2 => ?_) (fun hx2 => ?_)
   ·have hx2 : (n : Int) ≥ 1 := by simpa using hx2
    refine SOps.pures 5 (i' := 9) (m' := 0) (e' := [(2, .bool (decide ((n : Int) ≤ 16))), (49, .bool (decide ((n : Int) ≤ 16))), (48, .bool (decide ((n : Int) ≤ 16))), (47, .int .i64 (n : Int)), (46, .slice A n c0), (45, .bool true), (44, .bool true), (43, .int .i64 (n : Int)), (42, .slice A n c0), (0, .slice A n c0)]) (by intro u; kernel_rfl) ?_
    refine SOps.nil (.inl rfl) ?_
    refine At.pick [2] (e' := [(2, .bool (decide ((n : Int) ≤ 16)))]) (by kernel_rfl) ?_
    refine At.ret1 (fn := Try.f8) (v := .bool (decide ((n : Int) ≤ 16))) (t := 2) (by kernel_rfl) Try.func8 (by kernel_rfl) (by kernel_rfl) (fun F w ho => ?_)
    exact shutV (by rw [rightB_end hl (fun i hi => ha i (by omega))]; congr 1; rw [Bool.eq_iff_iff]; simp only [decide_eq_true_eq, Bool.false_eq_true, false_iff]; omega) [0] rfl ho
   ·have hx2 : (n : Int) < 1 := by simpa using hx2
    refine SOps.pures 5 (i' := 9) (m' := 0) (e' := [(2, .bool false), (49, .bool false), (48, .tuple #[]), (47, .tuple #[]), (46, .tuple #[]), (45, .bool false), (44, .bool false), (43, .int .i64 (n : Int)), (42, .slice A n c0), (0, .slice A n c0)]) (by intro u; kernel_rfl) ?_
    refine SOps.nil (.inl rfl) ?_
    refine At.pick [2] (e' := [(2, .bool false)]) (by kernel_rfl) ?_
    refine At.ret1 (fn := Try.f8) (v := .bool false) (t := 2) (by kernel_rfl) Try.func8 (by kernel_rfl) (by kernel_rfl) (fun F w ho => ?_)
    exact shutV (by rw [rightB_end hl (fun i hi => ha i (by omega))]; congr 1; rw [Bool.eq_iff_iff]; simp only [decide_eq_true_eq, Bool.false_eq_true, false_iff]; omega) [0] rfl ho
theorem right8 (B : Asn) (A : Option Addr) (l : List Task) (n c0 : Nat) (hl : l.length = n) (hB : InB B A (tasks l)) (hA : 0 < n → A = some ⟨blk A, ofs A, none⟩) (hn : n ≤ 1000000) : Ctr Try.prog 8 #[.slice A n c0] [B] (fun v' => star (fact (v' = .bool (rightB l)) :: [B])) false := by
 refine spec_of_at (fn := Try.f8) (c := bd8) (args := [.slice A n c0]) (n := 50) (e := [(0, .slice A n c0)]) (k := pt8_10) Try.func8 (by kernel_rfl) (by kernel_rfl) (by kernel_rfl) (by kernel_rfl) 300 (by kernel_rfl) ?_
 refine At.region (ops := opt8_10) (m := 1) (k' := kt8_11) (by kernel_rfl) 300 (k'' := pt8_11) (by kernel_rfl) ?_
 refine SOps.pures 1 (i' := 1) (m' := 0) (e' := [(2, .bool false), (0, .slice A n c0)]) (by intro u; kernel_rfl) ?_
 refine SOps.nil (.inl rfl) ?_
 refine At.pick [0] (e' := [(0, .slice A n c0)]) (by kernel_rfl) ?_
 refine At.region (ops := opt8_11) (m := 3) (k' := kt8_12) (by kernel_rfl) 300 (k'' := pt8_0) (by kernel_rfl) ?_
 refine SOps.pures 3 (i' := 3) (m' := 0) (e' := [(7, .int .i64 0), (6, .int .i64 (n : Int)), (5, .slice A n c0), (0, .slice A n c0)]) (by intro u; kernel_rfl) ?_
 refine SOps.nil (.inl rfl) ?_
 refine At.pick [0, 5, 6, 7] (e' := [(0, .slice A n c0), (5, .slice A n c0), (6, .int .i64 (n : Int)), (7, .int .i64 0)]) (by kernel_rfl) ?_
 exact right8_loop B A l n c0 hl hB hA hn (n + 1) 0 (by omega) (by omega) (fun i hi => by omega)
noncomputable def bd9 : Code := (Try.f9.body).getD .skip
noncomputable def kt9_0 : List Item := .code (pick [1, 1] bd9) :: []
noncomputable def kt9_1 : List Item := .inBlock 0 :: kt9_0
noncomputable def kt9_2 : List Item := .inLoop (pick [1, 0, 1, 0, 0] bd9) :: kt9_1
noncomputable def kt9_3 : List Item := .code (pick [1, 0, 1, 0, 0, 1] bd9) :: kt9_2
noncomputable def pt9_0 : List Item := .code (pick [1, 0, 1, 0, 0, 0] bd9) :: kt9_3
noncomputable def opt9_0 : Array Oper := opsOf (pick [1, 0, 1, 0, 0, 0] bd9)
noncomputable def kt9_4 : List Item := .code (pick [1, 0, 1, 0, 0, 1, 1] bd9) :: kt9_2
noncomputable def pt9_1 : List Item := .code (pick [1, 0, 1, 0, 0, 1, 0] bd9) :: kt9_4
noncomputable def kt9_5 : List Item := .code (pick [1, 0, 1, 0, 0, 1, 1, 1] bd9) :: kt9_2
noncomputable def kt9_6 : List Item := .inBlock 1 :: kt9_5
noncomputable def kt9_7 : List Item := .code (pick [1, 0, 1, 0, 0, 1, 1, 0, 0, 1] bd9) :: kt9_6
noncomputable def pt9_2 : List Item := .code (pick [1, 0, 1, 0, 0, 1, 1, 0, 0, 0] bd9) :: kt9_7
noncomputable def opt9_2 : Array Oper := opsOf (pick [1, 0, 1, 0, 0, 1, 1, 0, 0, 0] bd9)
noncomputable def kt9_8 : List Item := .code (pick [1, 1, 1] bd9) :: []
noncomputable def pt9_3 : List Item := .code (pick [1, 1, 0] bd9) :: kt9_8
noncomputable def opt9_3 : Array Oper := opsOf (pick [1, 1, 0] bd9)
noncomputable def kt9_9 : List Item := .code (pick [1, 0, 1, 0, 0, 1, 1, 0, 0, 1, 1] bd9) :: kt9_6
noncomputable def pt9_4 : List Item := .code (pick [1, 0, 1, 0, 0, 1, 1, 0, 0, 1, 0] bd9) :: kt9_9
noncomputable def opt9_4 : Array Oper := opsOf (pick [1, 0, 1, 0, 0, 1, 1, 0, 0, 1, 0] bd9)
noncomputable def pt9_5 : List Item := .code (pick [1, 0, 1, 0, 0, 1, 1, 0, 0, 1, 1] bd9) :: kt9_6
noncomputable def kt9_10 : List Item := .code (pick [1, 0, 1, 0, 0, 1, 1, 0, 0, 1, 1, 0, 1] bd9) :: kt9_6
noncomputable def pt9_6 : List Item := .code (pick [1, 0, 1, 0, 0, 1, 1, 0, 0, 1, 1, 0, 0] bd9) :: kt9_10
noncomputable def opt9_6 : Array Oper := opsOf (pick [1, 0, 1, 0, 0, 1, 1, 0, 0, 1, 1, 0, 0] bd9)
noncomputable def pt9_7 : List Item := .code (pick [1, 0, 1, 0, 0, 1, 1, 1] bd9) :: kt9_2
noncomputable def opt9_7 : Array Oper := opsOf (pick [1, 0, 1, 0, 0, 1, 1, 1] bd9)
noncomputable def pt9_8 : List Item := .code (pick [1, 0, 1, 0, 0, 1, 1, 0, 0, 1, 1, 0, 1] bd9) :: kt9_6
noncomputable def pt9_9 : List Item := .code (pick [1, 1, 1] bd9) :: []
noncomputable def kt9_11 : List Item := .code (pick [1] bd9) :: []
noncomputable def pt9_10 : List Item := .code (pick [0] bd9) :: kt9_11
noncomputable def opt9_10 : Array Oper := opsOf (pick [0] bd9)
noncomputable def kt9_12 : List Item := .code (pick [1, 0, 1] bd9) :: kt9_0
noncomputable def pt9_11 : List Item := .code (pick [1, 0, 0] bd9) :: kt9_12
noncomputable def opt9_11 : Array Oper := opsOf (pick [1, 0, 0] bd9)
theorem right9_loop (B : Asn) (A : Option Addr) (l : List Task) (n c0 : Nat) (hl : l.length = n) (hB : InB B A (tasks l)) (hA : 0 < n → A = some ⟨blk A, ofs A, none⟩) (hn : n ≤ 1000000) : ∀ (m k : Nat), n - k < m → k ≤ n → (∀ i, i < k → okB (l.getD i t0) = true) → At ⟨Try.prog, 9, (fun v' => star (fact (v' = .bool (rightB l)) :: [B])), 50, false⟩ pt9_0 [(0, .slice A n c0), (5, .slice A n c0), (6, .int .i64 (n : Int)), (7, .int .i64 (k : Int))] [B] := by
 intro m
 induction m with
 | zero => intro k h; omega
 | succ m ih =>
  intro k hm hk ha
  refine At.region (ops := opt9_0) (m := 1) (k' := kt9_3) (by kernel_rfl) 300 (k'' := pt9_1) (by kernel_rfl) ?_
  refine SOps.pures 1 (i' := 1) (m' := 0) (e' := [(8, .bool (decide ((k : Int) < (n : Int)))), (0, .slice A n c0), (5, .slice A n c0), (6, .int .i64 (n : Int)), (7, .int .i64 (k : Int))]) (by intro u; kernel_rfl) ?_
  refine SOps.nil (.inl rfl) ?_
  refine At.pick [0, 5, 6, 7, 8] (e' := [(0, .slice A n c0), (5, .slice A n c0), (6, .int .i64 (n : Int)), (7, .int .i64 (k : Int)), (8, .bool (decide ((k : Int) < (n : Int))))]) (by kernel_rfl) ?_
  refine At.split (fun zq => [(0, .slice A n c0), (5, .slice A n c0), (6, .int .i64 (n : Int)), (7, .int .i64 (k : Int)), (8, .bool zq)]) (decide ((k : Int) < (n : Int))) (fun hx1 => ?_) (fun hx1 => ?_)
  ·have hx1 : (k : Int) < (n : Int) := by simpa using hx1
   refine At.cond 300 true (c := .tmp 8) (k1 := pt9_2) (k2 := pt9_3) (by kernel_rfl) (by intro u; kernel_rfl) (fun _ => ?_) (fun h => by cases h)
   refine At.pick [0, 5, 6, 7] (e' := [(0, .slice A n c0), (5, .slice A n c0), (6, .int .i64 (n : Int)), (7, .int .i64 (k : Int))]) (by kernel_rfl) ?_
   refine At.region (ops := opt9_2) (m := 4) (k' := kt9_7) (by kernel_rfl) 300 (k'' := pt9_4) (by kernel_rfl) ?_
   refine SOps.v (Val.pv 9 (vN (Instr.indexAt 22 (.slice A n c0) (.int .i64 (k : Int)))) (.pointer (some ⟨(blk A), ofs A + k * 3, none⟩)) (by intro u; kernel_rfl) (pv_indexO (el := 35) (sz := 3) (by kernel_rfl) (by kernel_rfl) (by omega) (by omega) (hA (by omega)) (by omega))) ?_
   refine SOps.v (Val.ldN 0 10 35 (blk A) (ofs A + k * 3) 3 [.int .i64 ((l.getD k t0).p), .int .i64 ((l.getD k t0).c), .int .i64 ((l.getD k t0).b)] rfl (by intro u; kernel_rfl) (by kernel_rfl) (by kernel_rfl) rfl ⟨(Rd.inB hB (flat_get encT 3 (fun _ => rfl) l k 0 (l.getD k t0) _ (getD_some (by omega)) rfl)), (Rd.inB hB (flat_get encT 3 (fun _ => rfl) l k 1 (l.getD k t0) _ (getD_some (by omega)) rfl)), (Rd.inB hB (flat_get encT 3 (fun _ => rfl) l k 2 (l.getD k t0) _ (getD_some (by omega)) rfl)), trivial⟩) ?_
   refine SOps.o (Op.new 4 35 [.int .i64 0, .int .i64 0, .int .i64 0] (fun b => .pointer (some ⟨b, 0, none⟩)) (by intro u b; kernel_rfl) ?_)
   intro bx2
   refine SOps.o (Op.st 0 35 bx2 0 (.agg #[.int .i64 ((l.getD k t0).p), .int .i64 ((l.getD k t0).c), .int .i64 ((l.getD k t0).b)]) [.int .i64 ((l.getD k t0).p), .int .i64 ((l.getD k t0).c), .int .i64 ((l.getD k t0).b)] 3 (B' := Cells bx2 35 [.int .i64 ((l.getD k t0).p), .int .i64 ((l.getD k t0).c), .int .i64 ((l.getD k t0).b)]) (A' := [Cells bx2 35 [.int .i64 ((l.getD k t0).p), .int .i64 ((l.getD k t0).c), .int .i64 ((l.getD k t0).b)], B]) rfl (by intro u; kernel_rfl) rfl (by kernel_rfl) rfl rfl (Wr.cells rfl rfl) rfl ?_)
   refine SOps.nil (.inl rfl) ?_
   refine At.pick [0, 4, 5, 6, 7] (e' := [(0, .slice A n c0), (4, .pointer (some ⟨bx2, 0, none⟩)), (5, .slice A n c0), (6, .int .i64 (n : Int)), (7, .int .i64 (k : Int))]) (by kernel_rfl) ?_
   refine At.region (ops := opt9_4) (m := 30) (k' := kt9_9) (by kernel_rfl) 300 (k'' := pt9_5) (by kernel_rfl) ?_
   refine SOps.pures 1 (i' := 1) (m' := 29) (e' := [(11, .pointer (some ⟨bx2, 0, none⟩)), (0, .slice A n c0), (4, .pointer (some ⟨bx2, 0, none⟩)), (5, .slice A n c0), (6, .int .i64 (n : Int)), (7, .int .i64 (k : Int))]) (by intro u; kernel_rfl) ?_
   refine SOps.v (Val.ld1 0 12 3 bx2 0 (.int .i64 ((l.getD k t0).p)) rfl (by intro u; kernel_rfl) (by kernel_rfl) (Rd.cells rfl)) ?_
   refine SOps.pures 2 (i' := 4) (m' := 26) (e' := [(14, .bool (decide (((l.getD k t0).p) < 1))), (13, .bool (decide (((l.getD k t0).p) < 1))), (12, .int .i64 ((l.getD k t0).p)), (11, .pointer (some ⟨bx2, 0, none⟩)), (0, .slice A n c0), (4, .pointer (some ⟨bx2, 0, none⟩)), (5, .slice A n c0), (6, .int .i64 (n : Int)), (7, .int .i64 (k : Int))]) (by intro u; kernel_rfl) ?_
   refine SOps.split (fun zq => [(14, .bool zq), (13, .bool zq), (12, .int .i64 ((l.getD k t0).p)), (11, .pointer (some ⟨bx2, 0, none⟩)), (0, .slice A n c0), (4, .pointer (some ⟨bx2, 0, none⟩)), (5, .slice A n c0), (6, .int .i64 (n : Int)), (7, .int .i64 (k : Int))]) (decide (((l.getD k t0).p) < 1)) (fun hx3 => ?_) (fun hx3 => ?_)
   ·have hx3 : (l.getD k t0).p < 1 := by simpa using hx3
    refine SOps.pures 26 (i' := 30) (m' := 0) (e' := [(40, .bool true), (39, .tuple #[]), (38, .tuple #[]), (37, .tuple #[]), (36, .bool true), (35, .bool true), (34, .tuple #[]), (33, .tuple #[]), (32, .tuple #[]), (31, .bool true), (30, .bool true), (29, .tuple #[]), (28, .tuple #[]), (27, .tuple #[]), (26, .tuple #[]), (25, .tuple #[]), (24, .bool true), (23, .bool true), (22, .tuple #[]), (21, .tuple #[]), (20, .tuple #[]), (19, .bool true), (18, .bool true), (17, .tuple #[]), (16, .tuple #[]), (15, .tuple #[]), (14, .bool true), (13, .bool true), (12, .int .i64 ((l.getD k t0).p)), (11, .pointer (some ⟨bx2, 0, none⟩)), (0, .slice A n c0), (4, .pointer (some ⟨bx2, 0, none⟩)), (5, .slice A n c0), (6, .int .i64 (n : Int)), (7, .int .i64 (k : Int))]) (by intro u; kernel_rfl) ?_
    refine SOps.nil (.inl rfl) ?_
    refine At.pick [0, 5, 6, 7, 40] (e' := [(0, .slice A n c0), (5, .slice A n c0), (6, .int .i64 (n : Int)), (7, .int .i64 (k : Int)), (40, .bool true)]) (by kernel_rfl) ?_
    refine At.cond 300 true (c := .tmp 40) (k1 := pt9_6) (k2 := pt9_7) (by kernel_rfl) (by intro u; kernel_rfl) (fun _ => ?_) (fun h => by cases h)
    refine At.pick [] (e' := []) (by kernel_rfl) ?_
    refine At.region (ops := opt9_6) (m := 1) (k' := kt9_10) (by kernel_rfl) 300 (k'' := pt9_8) (by kernel_rfl) ?_
    refine SOps.pures 1 (i' := 1) (m' := 0) (e' := [(2, .bool false)]) (by intro u; kernel_rfl) ?_
    refine SOps.nil (.inl rfl) ?_
    refine At.ret1 (fn := Try.f9) (v := .bool false) (t := 2) (by kernel_rfl) Try.func9 (by kernel_rfl) (by kernel_rfl) (fun F w ho => ?_)
    exact shutV (by rw [rightB_no hl (k := k) (by omega) (by unfold okB; simp only [decide_eq_false_iff_not]; omega)]) [1] rfl ho
   ·have hx3 : (l.getD k t0).p ≥ 1 := by simpa using hx3
    refine SOps.pures 1 (i' := 5) (m' := 25) (e' := [(15, .pointer (some ⟨bx2, 0, none⟩)), (14, .bool false), (13, .bool false), (12, .int .i64 ((l.getD k t0).p)), (11, .pointer (some ⟨bx2, 0, none⟩)), (0, .slice A n c0), (4, .pointer (some ⟨bx2, 0, none⟩)), (5, .slice A n c0), (6, .int .i64 (n : Int)), (7, .int .i64 (k : Int))]) (by intro u; kernel_rfl) ?_
    refine SOps.v (Val.ld1 0 16 3 bx2 0 (.int .i64 ((l.getD k t0).p)) rfl (by intro u; kernel_rfl) (by kernel_rfl) (Rd.cells rfl)) ?_
    refine SOps.pures 3 (i' := 9) (m' := 21) (e' := [(19, .bool (decide (((l.getD k t0).p) > 1000))), (18, .bool (decide (((l.getD k t0).p) > 1000))), (17, .bool (decide (((l.getD k t0).p) > 1000))), (16, .int .i64 ((l.getD k t0).p)), (15, .pointer (some ⟨bx2, 0, none⟩)), (14, .bool false), (13, .bool false), (12, .int .i64 ((l.getD k t0).p)), (11, .pointer (some ⟨bx2, 0, none⟩)), (0, .slice A n c0), (4, .pointer (some ⟨bx2, 0, none⟩)), (5, .slice A n c0), (6, .int .i64 (n : Int)), (7, .int .i64 (k : Int))]) (by intro u; kernel_rfl) ?_
    refine SOps.split (fun zq => [(19, .bool zq), (18, .bool zq), (17, .bool zq), (16, .int .i64 ((l.getD k t0).p)), (15, .pointer (some ⟨bx2, 0, none⟩)), (14, .bool false), (13, .bool false), (12, .int .i64 ((l.getD k t0).p)), (11, .pointer (some ⟨bx2, 0, none⟩)), (0, .slice A n c0), (4, .pointer (some ⟨bx2, 0, none⟩)), (5, .slice A n c0), (6, .int .i64 (n : Int)), (7, .int .i64 (k : Int))]) (decide (((l.getD k t0).p) > 1000)) (fun hx4 => ?_) (fun hx4 => ?_)
    ·have hx4 : (l.getD k t0).p > 1000 := by simpa using hx4
     refine SOps.pures 21 (i' := 30) (m' := 0) (e' := [(40, .bool true), (39, .tuple #[]), (38, .tuple #[]), (37, .tuple #[]), (36, .bool true), (35, .bool true), (34, .tuple #[]), (33, .tuple #[]), (32, .tuple #[]), (31, .bool true), (30, .bool true), (29, .tuple #[]), (28, .tuple #[]), (27, .tuple #[]), (26, .tuple #[]), (25, .tuple #[]), (24, .bool true), (23, .bool true), (22, .tuple #[]), (21, .tuple #[]), (20, .tuple #[]), (19, .bool true), (18, .bool true), (17, .bool true), (16, .int .i64 ((l.getD k t0).p)), (15, .pointer (some ⟨bx2, 0, none⟩)), (14, .bool false), (13, .bool false), (12, .int .i64 ((l.getD k t0).p)), (11, .pointer (some ⟨bx2, 0, none⟩)), (0, .slice A n c0), (4, .pointer (some ⟨bx2, 0, none⟩)), (5, .slice A n c0), (6, .int .i64 (n : Int)), (7, .int .i64 (k : Int))]) (by intro u; kernel_rfl) ?_
     refine SOps.nil (.inl rfl) ?_
     refine At.pick [0, 5, 6, 7, 40] (e' := [(0, .slice A n c0), (5, .slice A n c0), (6, .int .i64 (n : Int)), (7, .int .i64 (k : Int)), (40, .bool true)]) (by kernel_rfl) ?_
     refine At.cond 300 true (c := .tmp 40) (k1 := pt9_6) (k2 := pt9_7) (by kernel_rfl) (by intro u; kernel_rfl) (fun _ => ?_) (fun h => by cases h)
     refine At.pick [] (e' := []) (by kernel_rfl) ?_
     refine At.region (ops := opt9_6) (m := 1) (k' := kt9_10) (by kernel_rfl) 300 (k'' := pt9_8) (by kernel_rfl) ?_
     refine SOps.pures 1 (i' := 1) (m' := 0) (e' := [(2, .bool false)]) (by intro u; kernel_rfl) ?_
     refine SOps.nil (.inl rfl) ?_
     refine At.ret1 (fn := Try.f9) (v := .bool false) (t := 2) (by kernel_rfl) Try.func9 (by kernel_rfl) (by kernel_rfl) (fun F w ho => ?_)
     exact shutV (by rw [rightB_no hl (k := k) (by omega) (by unfold okB; simp only [decide_eq_false_iff_not]; omega)]) [1] rfl ho
    ·have hx4 : (l.getD k t0).p ≤ 1000 := by simpa using hx4
     refine SOps.pures 1 (i' := 10) (m' := 20) (e' := [(20, .pointer (some ⟨bx2, 1, none⟩)), (19, .bool false), (18, .bool false), (17, .bool false), (16, .int .i64 ((l.getD k t0).p)), (15, .pointer (some ⟨bx2, 0, none⟩)), (14, .bool false), (13, .bool false), (12, .int .i64 ((l.getD k t0).p)), (11, .pointer (some ⟨bx2, 0, none⟩)), (0, .slice A n c0), (4, .pointer (some ⟨bx2, 0, none⟩)), (5, .slice A n c0), (6, .int .i64 (n : Int)), (7, .int .i64 (k : Int))]) (by intro u; kernel_rfl) ?_
     refine SOps.v (Val.ld1 0 21 3 bx2 1 (.int .i64 ((l.getD k t0).c)) rfl (by intro u; kernel_rfl) (by kernel_rfl) (Rd.cells rfl)) ?_
     refine SOps.pures 3 (i' := 14) (m' := 16) (e' := [(24, .bool (decide (((l.getD k t0).c) < 1))), (23, .bool (decide (((l.getD k t0).c) < 1))), (22, .bool (decide (((l.getD k t0).c) < 1))), (21, .int .i64 ((l.getD k t0).c)), (20, .pointer (some ⟨bx2, 1, none⟩)), (19, .bool false), (18, .bool false), (17, .bool false), (16, .int .i64 ((l.getD k t0).p)), (15, .pointer (some ⟨bx2, 0, none⟩)), (14, .bool false), (13, .bool false), (12, .int .i64 ((l.getD k t0).p)), (11, .pointer (some ⟨bx2, 0, none⟩)), (0, .slice A n c0), (4, .pointer (some ⟨bx2, 0, none⟩)), (5, .slice A n c0), (6, .int .i64 (n : Int)), (7, .int .i64 (k : Int))]) (by intro u; kernel_rfl) ?_
     refine SOps.split (fun zq => [(24, .bool zq), (23, .bool zq), (22, .bool zq), (21, .int .i64 ((l.getD k t0).c)), (20, .pointer (some ⟨bx2, 1, none⟩)), (19, .bool false), (18, .bool false), (17, .bool false), (16, .int .i64 ((l.getD k t0).p)), (15, .pointer (some ⟨bx2, 0, none⟩)), (14, .bool false), (13, .bool false), (12, .int .i64 ((l.getD k t0).p)), (11, .pointer (some ⟨bx2, 0, none⟩)), (0, .slice A n c0), (4, .pointer (some ⟨bx2, 0, none⟩)), (5, .slice A n c0), (6, .int .i64 (n : Int)), (7, .int .i64 (k : Int))]) (decide (((l.getD k t0).c) < 1)) (fun hx5 => ?_) (fun hx5 => ?_)
     ·have hx5 : (l.getD k t0).c < 1 := by simpa using hx5
      refine SOps.pures 16 (i' := 30) (m' := 0) (e' := [(40, .bool true), (39, .tuple #[]), (38, .tuple #[]), (37, .tuple #[]), (36, .bool true), (35, .bool true), (34, .tuple #[]), (33, .tuple #[]), (32, .tuple #[]), (31, .bool true), (30, .bool true), (29, .tuple #[]), (28, .tuple #[]), (27, .tuple #[]), (26, .tuple #[]), (25, .tuple #[]), (24, .bool true), (23, .bool true), (22, .bool true), (21, .int .i64 ((l.getD k t0).c)), (20, .pointer (some ⟨bx2, 1, none⟩)), (19, .bool false), (18, .bool false), (17, .bool false), (16, .int .i64 ((l.getD k t0).p)), (15, .pointer (some ⟨bx2, 0, none⟩)), (14, .bool false), (13, .bool false), (12, .int .i64 ((l.getD k t0).p)), (11, .pointer (some ⟨bx2, 0, none⟩)), (0, .slice A n c0), (4, .pointer (some ⟨bx2, 0, none⟩)), (5, .slice A n c0), (6, .int .i64 (n : Int)), (7, .int .i64 (k : Int))]) (by intro u; kernel_rfl) ?_
      refine SOps.nil (.inl rfl) ?_
      refine At.pick [0, 5, 6, 7, 40] (e' := [(0, .slice A n c0), (5, .slice A n c0), (6, .int .i64 (n : Int)), (7, .int .i64 (k : Int)), (40, .bool true)]) (by kernel_rfl) ?_
      refine At.cond 300 true (c := .tmp 40) (k1 := pt9_6) (k2 := pt9_7) (by kernel_rfl) (by intro u; kernel_rfl) (fun _ => ?_) (fun h => by cases h)
      refine At.pick [] (e' := []) (by kernel_rfl) ?_
      refine At.region (ops := opt9_6) (m := 1) (k' := kt9_10) (by kernel_rfl) 300 (k'' := pt9_8) (by kernel_rfl) ?_
      refine SOps.pures 1 (i' := 1) (m' := 0) (e' := [(2, .bool false)]) (by intro u; kernel_rfl) ?_
      refine SOps.nil (.inl rfl) ?_
      refine At.ret1 (fn := Try.f9) (v := .bool false) (t := 2) (by kernel_rfl) Try.func9 (by kernel_rfl) (by kernel_rfl) (fun F w ho => ?_)
      exact shutV (by rw [rightB_no hl (k := k) (by omega) (by unfold okB; simp only [decide_eq_false_iff_not]; omega)]) [1] rfl ho
     ·have hx5 : (l.getD k t0).c ≥ 1 := by simpa using hx5
      refine SOps.pures 1 (i' := 15) (m' := 15) (e' := [(25, .pointer (some ⟨bx2, 1, none⟩)), (24, .bool false), (23, .bool false), (22, .bool false), (21, .int .i64 ((l.getD k t0).c)), (20, .pointer (some ⟨bx2, 1, none⟩)), (19, .bool false), (18, .bool false), (17, .bool false), (16, .int .i64 ((l.getD k t0).p)), (15, .pointer (some ⟨bx2, 0, none⟩)), (14, .bool false), (13, .bool false), (12, .int .i64 ((l.getD k t0).p)), (11, .pointer (some ⟨bx2, 0, none⟩)), (0, .slice A n c0), (4, .pointer (some ⟨bx2, 0, none⟩)), (5, .slice A n c0), (6, .int .i64 (n : Int)), (7, .int .i64 (k : Int))]) (by intro u; kernel_rfl) ?_
      refine SOps.v (Val.ld1 0 26 3 bx2 1 (.int .i64 ((l.getD k t0).c)) rfl (by intro u; kernel_rfl) (by kernel_rfl) (Rd.cells rfl)) ?_
      refine SOps.pures 1 (i' := 17) (m' := 13) (e' := [(27, .pointer (some ⟨bx2, 0, none⟩)), (26, .int .i64 ((l.getD k t0).c)), (25, .pointer (some ⟨bx2, 1, none⟩)), (24, .bool false), (23, .bool false), (22, .bool false), (21, .int .i64 ((l.getD k t0).c)), (20, .pointer (some ⟨bx2, 1, none⟩)), (19, .bool false), (18, .bool false), (17, .bool false), (16, .int .i64 ((l.getD k t0).p)), (15, .pointer (some ⟨bx2, 0, none⟩)), (14, .bool false), (13, .bool false), (12, .int .i64 ((l.getD k t0).p)), (11, .pointer (some ⟨bx2, 0, none⟩)), (0, .slice A n c0), (4, .pointer (some ⟨bx2, 0, none⟩)), (5, .slice A n c0), (6, .int .i64 (n : Int)), (7, .int .i64 (k : Int))]) (by intro u; kernel_rfl) ?_
      refine SOps.v (Val.ld1 0 28 3 bx2 0 (.int .i64 ((l.getD k t0).p)) rfl (by intro u; kernel_rfl) (by kernel_rfl) (Rd.cells rfl)) ?_
      refine SOps.pures 3 (i' := 21) (m' := 9) (e' := [(31, .bool (decide (((l.getD k t0).c) > ((l.getD k t0).p)))), (30, .bool (decide (((l.getD k t0).c) > ((l.getD k t0).p)))), (29, .bool (decide (((l.getD k t0).c) > ((l.getD k t0).p)))), (28, .int .i64 ((l.getD k t0).p)), (27, .pointer (some ⟨bx2, 0, none⟩)), (26, .int .i64 ((l.getD k t0).c)), (25, .pointer (some ⟨bx2, 1, none⟩)), (24, .bool false), (23, .bool false), (22, .bool false), (21, .int .i64 ((l.getD k t0).c)), (20, .pointer (some ⟨bx2, 1, none⟩)), (19, .bool false), (18, .bool false), (17, .bool false), (16, .int .i64 ((l.getD k t0).p)), (15, .pointer (some ⟨bx2, 0, none⟩)), (14, .bool false), (13, .bool false), (12, .int .i64 ((l.getD k t0).p)), (11, .pointer (some ⟨bx2, 0, none⟩)), (0, .slice A n c0), (4, .pointer (some ⟨bx2, 0, none⟩)), (5, .slice A n c0), (6, .int .i64 (n : Int)), (7, .int .i64 (k : Int))]) (by intro u; kernel_rfl) ?_
      refine SOps.split (fun zq => [(31, .bool zq), (30, .bool zq), (29, .bool zq), (28, .int .i64 ((l.getD k t0).p)), (27, .pointer (some ⟨bx2, 0, none⟩)), (26, .int .i64 ((l.getD k t0).c)), (25, .pointer (some ⟨bx2, 1, none⟩)), (24, .bool false), (23, .bool false), (22, .bool false), (21, .int .i64 ((l.getD k t0).c)), (20, .pointer (some ⟨bx2, 1, none⟩)), (19, .bool false), (18, .bool false), (17, .bool false), (16, .int .i64 ((l.getD k t0).p)), (15, .pointer (some ⟨bx2, 0, none⟩)), (14, .bool false), (13, .bool false), (12, .int .i64 ((l.getD k t0).p)), (11, .pointer (some ⟨bx2, 0, none⟩)), (0, .slice A n c0), (4, .pointer (some ⟨bx2, 0, none⟩)), (5, .slice A n c0), (6, .int .i64 (n : Int)), (7, .int .i64 (k : Int))]) (decide (((l.getD k t0).c) > ((l.getD k t0).p))) (fun hx6 => ?_) (fun hx6 => ?_)
      ·have hx6 : (l.getD k t0).c > (l.getD k t0).p := by simpa using hx6
       refine SOps.pures 9 (i' := 30) (m' := 0) (e' := [(40, .bool true), (39, .tuple #[]), (38, .tuple #[]), (37, .tuple #[]), (36, .bool true), (35, .bool true), (34, .tuple #[]), (33, .tuple #[]), (32, .tuple #[]), (31, .bool true), (30, .bool true), (29, .bool true), (28, .int .i64 ((l.getD k t0).p)), (27, .pointer (some ⟨bx2, 0, none⟩)), (26, .int .i64 ((l.getD k t0).c)), (25, .pointer (some ⟨bx2, 1, none⟩)), (24, .bool false), (23, .bool false), (22, .bool false), (21, .int .i64 ((l.getD k t0).c)), (20, .pointer (some ⟨bx2, 1, none⟩)), (19, .bool false), (18, .bool false), (17, .bool false), (16, .int .i64 ((l.getD k t0).p)), (15, .pointer (some ⟨bx2, 0, none⟩)), (14, .bool false), (13, .bool false), (12, .int .i64 ((l.getD k t0).p)), (11, .pointer (some ⟨bx2, 0, none⟩)), (0, .slice A n c0), (4, .pointer (some ⟨bx2, 0, none⟩)), (5, .slice A n c0), (6, .int .i64 (n : Int)), (7, .int .i64 (k : Int))]) (by intro u; kernel_rfl) ?_
       refine SOps.nil (.inl rfl) ?_
       refine At.pick [0, 5, 6, 7, 40] (e' := [(0, .slice A n c0), (5, .slice A n c0), (6, .int .i64 (n : Int)), (7, .int .i64 (k : Int)), (40, .bool true)]) (by kernel_rfl) ?_
       refine At.cond 300 true (c := .tmp 40) (k1 := pt9_6) (k2 := pt9_7) (by kernel_rfl) (by intro u; kernel_rfl) (fun _ => ?_) (fun h => by cases h)
       refine At.pick [] (e' := []) (by kernel_rfl) ?_
       refine At.region (ops := opt9_6) (m := 1) (k' := kt9_10) (by kernel_rfl) 300 (k'' := pt9_8) (by kernel_rfl) ?_
       refine SOps.pures 1 (i' := 1) (m' := 0) (e' := [(2, .bool false)]) (by intro u; kernel_rfl) ?_
       refine SOps.nil (.inl rfl) ?_
       refine At.ret1 (fn := Try.f9) (v := .bool false) (t := 2) (by kernel_rfl) Try.func9 (by kernel_rfl) (by kernel_rfl) (fun F w ho => ?_)
       exact shutV (by rw [rightB_no hl (k := k) (by omega) (by unfold okB; simp only [decide_eq_false_iff_not]; omega)]) [1] rfl ho
      ·have hx6 : (l.getD k t0).c ≤ (l.getD k t0).p := by simpa using hx6
       refine SOps.pures 1 (i' := 22) (m' := 8) (e' := [(32, .pointer (some ⟨bx2, 2, none⟩)), (31, .bool false), (30, .bool false), (29, .bool false), (28, .int .i64 ((l.getD k t0).p)), (27, .pointer (some ⟨bx2, 0, none⟩)), (26, .int .i64 ((l.getD k t0).c)), (25, .pointer (some ⟨bx2, 1, none⟩)), (24, .bool false), (23, .bool false), (22, .bool false), (21, .int .i64 ((l.getD k t0).c)), (20, .pointer (some ⟨bx2, 1, none⟩)), (19, .bool false), (18, .bool false), (17, .bool false), (16, .int .i64 ((l.getD k t0).p)), (15, .pointer (some ⟨bx2, 0, none⟩)), (14, .bool false), (13, .bool false), (12, .int .i64 ((l.getD k t0).p)), (11, .pointer (some ⟨bx2, 0, none⟩)), (0, .slice A n c0), (4, .pointer (some ⟨bx2, 0, none⟩)), (5, .slice A n c0), (6, .int .i64 (n : Int)), (7, .int .i64 (k : Int))]) (by intro u; kernel_rfl) ?_
       refine SOps.v (Val.ld1 0 33 3 bx2 2 (.int .i64 ((l.getD k t0).b)) rfl (by intro u; kernel_rfl) (by kernel_rfl) (Rd.cells rfl)) ?_
       refine SOps.pures 3 (i' := 26) (m' := 4) (e' := [(36, .bool (decide (((l.getD k t0).b) < 0))), (35, .bool (decide (((l.getD k t0).b) < 0))), (34, .bool (decide (((l.getD k t0).b) < 0))), (33, .int .i64 ((l.getD k t0).b)), (32, .pointer (some ⟨bx2, 2, none⟩)), (31, .bool false), (30, .bool false), (29, .bool false), (28, .int .i64 ((l.getD k t0).p)), (27, .pointer (some ⟨bx2, 0, none⟩)), (26, .int .i64 ((l.getD k t0).c)), (25, .pointer (some ⟨bx2, 1, none⟩)), (24, .bool false), (23, .bool false), (22, .bool false), (21, .int .i64 ((l.getD k t0).c)), (20, .pointer (some ⟨bx2, 1, none⟩)), (19, .bool false), (18, .bool false), (17, .bool false), (16, .int .i64 ((l.getD k t0).p)), (15, .pointer (some ⟨bx2, 0, none⟩)), (14, .bool false), (13, .bool false), (12, .int .i64 ((l.getD k t0).p)), (11, .pointer (some ⟨bx2, 0, none⟩)), (0, .slice A n c0), (4, .pointer (some ⟨bx2, 0, none⟩)), (5, .slice A n c0), (6, .int .i64 (n : Int)), (7, .int .i64 (k : Int))]) (by intro u; kernel_rfl) ?_
       refine SOps.split (fun zq => [(36, .bool zq), (35, .bool zq), (34, .bool zq), (33, .int .i64 ((l.getD k t0).b)), (32, .pointer (some ⟨bx2, 2, none⟩)), (31, .bool false), (30, .bool false), (29, .bool false), (28, .int .i64 ((l.getD k t0).p)), (27, .pointer (some ⟨bx2, 0, none⟩)), (26, .int .i64 ((l.getD k t0).c)), (25, .pointer (some ⟨bx2, 1, none⟩)), (24, .bool false), (23, .bool false), (22, .bool false), (21, .int .i64 ((l.getD k t0).c)), (20, .pointer (some ⟨bx2, 1, none⟩)), (19, .bool false), (18, .bool false), (17, .bool false), (16, .int .i64 ((l.getD k t0).p)), (15, .pointer (some ⟨bx2, 0, none⟩)), (14, .bool false), (13, .bool false), (12, .int .i64 ((l.getD k t0).p)), (11, .pointer (some ⟨bx2, 0, none⟩)), (0, .slice A n c0), (4, .pointer (some ⟨bx2, 0, none⟩)), (5, .slice A n c0), (6, .int .i64 (n : Int)), (7, .int .i64 (k : Int))]) (decide (((l.getD k t0).b) < 0)) (fun hx7 => ?_) (fun hx7 => ?_)
       ·have hx7 : (l.getD k t0).b < 0 := by simpa using hx7
        refine SOps.pures 4 (i' := 30) (m' := 0) (e' := [(40, .bool true), (39, .tuple #[]), (38, .tuple #[]), (37, .tuple #[]), (36, .bool true), (35, .bool true), (34, .bool true), (33, .int .i64 ((l.getD k t0).b)), (32, .pointer (some ⟨bx2, 2, none⟩)), (31, .bool false), (30, .bool false), (29, .bool false), (28, .int .i64 ((l.getD k t0).p)), (27, .pointer (some ⟨bx2, 0, none⟩)), (26, .int .i64 ((l.getD k t0).c)), (25, .pointer (some ⟨bx2, 1, none⟩)), (24, .bool false), (23, .bool false), (22, .bool false), (21, .int .i64 ((l.getD k t0).c)), (20, .pointer (some ⟨bx2, 1, none⟩)), (19, .bool false), (18, .bool false), (17, .bool false), (16, .int .i64 ((l.getD k t0).p)), (15, .pointer (some ⟨bx2, 0, none⟩)), (14, .bool false), (13, .bool false), (12, .int .i64 ((l.getD k t0).p)), (11, .pointer (some ⟨bx2, 0, none⟩)), (0, .slice A n c0), (4, .pointer (some ⟨bx2, 0, none⟩)), (5, .slice A n c0), (6, .int .i64 (n : Int)), (7, .int .i64 (k : Int))]) (by intro u; kernel_rfl) ?_
        refine SOps.nil (.inl rfl) ?_
        refine At.pick [0, 5, 6, 7, 40] (e' := [(0, .slice A n c0), (5, .slice A n c0), (6, .int .i64 (n : Int)), (7, .int .i64 (k : Int)), (40, .bool true)]) (by kernel_rfl) ?_
        refine At.cond 300 true (c := .tmp 40) (k1 := pt9_6) (k2 := pt9_7) (by kernel_rfl) (by intro u; kernel_rfl) (fun _ => ?_) (fun h => by cases h)
        refine At.pick [] (e' := []) (by kernel_rfl) ?_
        refine At.region (ops := opt9_6) (m := 1) (k' := kt9_10) (by kernel_rfl) 300 (k'' := pt9_8) (by kernel_rfl) ?_
        refine SOps.pures 1 (i' := 1) (m' := 0) (e' := [(2, .bool false)]) (by intro u; kernel_rfl) ?_
        refine SOps.nil (.inl rfl) ?_
        refine At.ret1 (fn := Try.f9) (v := .bool false) (t := 2) (by kernel_rfl) Try.func9 (by kernel_rfl) (by kernel_rfl) (fun F w ho => ?_)
        exact shutV (by rw [rightB_no hl (k := k) (by omega) (by unfold okB; simp only [decide_eq_false_iff_not]; omega)]) [1] rfl ho
       ·have hx7 : (l.getD k t0).b ≥ 0 := by simpa using hx7
        refine SOps.pures 1 (i' := 27) (m' := 3) (e' := [(37, .pointer (some ⟨bx2, 2, none⟩)), (36, .bool false), (35, .bool false), (34, .bool false), (33, .int .i64 ((l.getD k t0).b)), (32, .pointer (some ⟨bx2, 2, none⟩)), (31, .bool false), (30, .bool false), (29, .bool false), (28, .int .i64 ((l.getD k t0).p)), (27, .pointer (some ⟨bx2, 0, none⟩)), (26, .int .i64 ((l.getD k t0).c)), (25, .pointer (some ⟨bx2, 1, none⟩)), (24, .bool false), (23, .bool false), (22, .bool false), (21, .int .i64 ((l.getD k t0).c)), (20, .pointer (some ⟨bx2, 1, none⟩)), (19, .bool false), (18, .bool false), (17, .bool false), (16, .int .i64 ((l.getD k t0).p)), (15, .pointer (some ⟨bx2, 0, none⟩)), (14, .bool false), (13, .bool false), (12, .int .i64 ((l.getD k t0).p)), (11, .pointer (some ⟨bx2, 0, none⟩)), (0, .slice A n c0), (4, .pointer (some ⟨bx2, 0, none⟩)), (5, .slice A n c0), (6, .int .i64 (n : Int)), (7, .int .i64 (k : Int))]) (by intro u; kernel_rfl) ?_
        refine SOps.v (Val.ld1 0 38 3 bx2 2 (.int .i64 ((l.getD k t0).b)) rfl (by intro u; kernel_rfl) (by kernel_rfl) (Rd.cells rfl)) ?_
        refine SOps.pures 2 (i' := 30) (m' := 0) (e' := [(40, .bool (decide (((l.getD k t0).b) > 1000))), (39, .bool (decide (((l.getD k t0).b) > 1000))), (38, .int .i64 ((l.getD k t0).b)), (37, .pointer (some ⟨bx2, 2, none⟩)), (36, .bool false), (35, .bool false), (34, .bool false), (33, .int .i64 ((l.getD k t0).b)), (32, .pointer (some ⟨bx2, 2, none⟩)), (31, .bool false), (30, .bool false), (29, .bool false), (28, .int .i64 ((l.getD k t0).p)), (27, .pointer (some ⟨bx2, 0, none⟩)), (26, .int .i64 ((l.getD k t0).c)), (25, .pointer (some ⟨bx2, 1, none⟩)), (24, .bool false), (23, .bool false), (22, .bool false), (21, .int .i64 ((l.getD k t0).c)), (20, .pointer (some ⟨bx2, 1, none⟩)), (19, .bool false), (18, .bool false), (17, .bool false), (16, .int .i64 ((l.getD k t0).p)), (15, .pointer (some ⟨bx2, 0, none⟩)), (14, .bool false), (13, .bool false), (12, .int .i64 ((l.getD k t0).p)), (11, .pointer (some ⟨bx2, 0, none⟩)), (0, .slice A n c0), (4, .pointer (some ⟨bx2, 0, none⟩)), (5, .slice A n c0), (6, .int .i64 (n : Int)), (7, .int .i64 (k : Int))]) (by intro u; kernel_rfl) ?_
        refine SOps.nil (.inl rfl) ?_
        refine At.pick [0, 5, 6, 7, 40] (e' := [(0, .slice A n c0), (5, .slice A n c0), (6, .int .i64 (n : Int)), (7, .int .i64 (k : Int)), (40, .bool (decide (((l.getD k t0).b) > 1000)))]) (by kernel_rfl) ?_
        refine At.split (fun zq => [(0, .slice A n c0), (5, .slice A n c0), (6, .int .i64 (n : Int)), (7, .int .i64 (k : Int)), (40, .bool zq)]) (decide (((l.getD k t0).b) > 1000)) (fun hx8 => ?_) (fun hx8 => ?_)
        ·have hx8 : (l.getD k t0).b > 1000 := by simpa using hx8
         refine At.cond 300 true (c := .tmp 40) (k1 := pt9_6) (k2 := pt9_7) (by kernel_rfl) (by intro u; kernel_rfl) (fun _ => ?_) (fun h => by cases h)
         refine At.pick [] (e' := []) (by kernel_rfl) ?_
         refine At.region (ops := opt9_6) (m := 1) (k' := kt9_10) (by kernel_rfl) 300 (k'' := pt9_8) (by kernel_rfl) ?_
         refine SOps.pures 1 (i' := 1) (m' := 0) (e' := [(2, .bool false)]) (by intro u; kernel_rfl) ?_
         refine SOps.nil (.inl rfl) ?_
         refine At.ret1 (fn := Try.f9) (v := .bool false) (t := 2) (by kernel_rfl) Try.func9 (by kernel_rfl) (by kernel_rfl) (fun F w ho => ?_)
         exact shutV (by rw [rightB_no hl (k := k) (by omega) (by unfold okB; simp only [decide_eq_false_iff_not]; omega)]) [1] rfl ho
        ·have hx8 : (l.getD k t0).b ≤ 1000 := by simpa using hx8
         refine At.cond 300 false (c := .tmp 40) (k1 := pt9_6) (k2 := pt9_7) (by kernel_rfl) (by intro u; kernel_rfl) (fun h => by cases h) (fun _ => ?_)
         refine At.pick [0, 5, 6, 7] (e' := [(0, .slice A n c0), (5, .slice A n c0), (6, .int .i64 (n : Int)), (7, .int .i64 (k : Int))]) (by kernel_rfl) ?_
         refine At.region (ops := opt9_7) (m := 2) (k' := kt9_2) (by kernel_rfl) 300 (k'' := pt9_0) (by kernel_rfl) ?_
         refine SOps.v (Val.pe 41 (.int .i64 (IntKind.i64.wrap ((k : Int) + 1))) (.int .i64 (((k + 1 : Nat) : Int))) (by intro u; kernel_rfl) (i64_in (by omega) (by omega) (by omega))) ?_
         refine SOps.pures 1 (i' := 2) (m' := 0) (e' := [(7, .int .i64 (((k + 1 : Nat) : Int))), (41, .int .i64 (((k + 1 : Nat) : Int))), (0, .slice A n c0), (5, .slice A n c0), (6, .int .i64 (n : Int)), (7, .int .i64 (k : Int))]) (by intro u; kernel_rfl) ?_
         refine SOps.nil (.inl rfl) ?_
         refine At.pick [0, 5, 6, 7] (e' := [(0, .slice A n c0), (5, .slice A n c0), (6, .int .i64 (n : Int)), (7, .int .i64 (((k + 1 : Nat) : Int)))]) (by kernel_rfl) ?_
         refine At.keep [1] (B := [B]) (D := [Cells bx2 35 [.int .i64 ((l.getD k t0).p), .int .i64 ((l.getD k t0).c), .int .i64 ((l.getD k t0).b)]]) rfl ?_
         refine ih (k + 1) (by omega) (by omega) (fun i hi => ?_)
         by_cases hik : i = k
         · subst hik; unfold okB; simp only [decide_eq_true_eq]; omega
         · exact ha i (by omega)
  ·have hx1 : (k : Int) ≥ (n : Int) := by simpa using hx1
   refine At.cond 300 false (c := .tmp 8) (k1 := pt9_2) (k2 := pt9_3) (by kernel_rfl) (by intro u; kernel_rfl) (fun h => by cases h) (fun _ => ?_)
   refine At.pick [0] (e' := [(0, .slice A n c0)]) (by kernel_rfl) ?_
   refine At.region (ops := opt9_3) (m := 9) (k' := kt9_8) (by kernel_rfl) 300 (k'' := pt9_9) (by kernel_rfl) ?_
   refine SOps.pures 4 (i' := 4) (m' := 5) (e' := [(45, .bool (decide ((n : Int) > 0))), (44, .bool (decide ((n : Int) > 0))), (43, .int .i64 (n : Int)), (42, .slice A n c0), (0, .slice A n c0)]) (by intro u; kernel_rfl) ?_
   refine SOps.split (fun zq => [(45, .bool zq), (44, .bool zq), (43, .int .i64 (n : Int)), (42, .slice A n c0), (0, .slice A n c0)]) (decide ((n : Int) > 0)) (fun hx2 => ?_) (fun hx2 => ?_)
   ·have hx2 : (n : Int) > 0 := by simpa using hx2
    refine SOps.pures 5 (i' := 9) (m' := 0) (e' := [(2, .bool (decide ((n : Int) ≤ 16))), (49, .bool (decide ((n : Int) ≤ 16))), (48, .bool (decide ((n : Int) ≤ 16))), (47, .int .i64 (n : Int)), (46, .slice A n c0), (45, .bool true), (44, .bool true), (43, .int .i64 (n : Int)), (42, .slice A n c0), (0, .slice A n c0)]) (by intro u; kernel_rfl) ?_
    refine SOps.nil (.inl rfl) ?_
    refine At.pick [2] (e' := [(2, .bool (decide ((n : Int) ≤ 16)))]) (by kernel_rfl) ?_
    refine At.ret1 (fn := Try.f9) (v := .bool (decide ((n : Int) ≤ 16))) (t := 2) (by kernel_rfl) Try.func9 (by kernel_rfl) (by kernel_rfl) (fun F w ho => ?_)
    exact shutV (by rw [rightB_end hl (fun i hi => ha i (by omega))]; congr 1; rw [Bool.eq_iff_iff]; simp only [decide_eq_true_eq, Bool.false_eq_true, false_iff]; omega) [0] rfl ho
   ·have hx2 : (n : Int) ≤ 0 := by simpa using hx2
    refine SOps.pures 5 (i' := 9) (m' := 0) (e' := [(2, .bool false), (49, .bool false), (48, .tuple #[]), (47, .tuple #[]), (46, .tuple #[]), (45, .bool false), (44, .bool false), (43, .int .i64 (n : Int)), (42, .slice A n c0), (0, .slice A n c0)]) (by intro u; kernel_rfl) ?_
    refine SOps.nil (.inl rfl) ?_
    refine At.pick [2] (e' := [(2, .bool false)]) (by kernel_rfl) ?_
    refine At.ret1 (fn := Try.f9) (v := .bool false) (t := 2) (by kernel_rfl) Try.func9 (by kernel_rfl) (by kernel_rfl) (fun F w ho => ?_)
    exact shutV (by rw [rightB_end hl (fun i hi => ha i (by omega))]; congr 1; rw [Bool.eq_iff_iff]; simp only [decide_eq_true_eq, Bool.false_eq_true, false_iff]; omega) [0] rfl ho
theorem right9 (B : Asn) (A : Option Addr) (l : List Task) (n c0 : Nat) (hl : l.length = n) (hB : InB B A (tasks l)) (hA : 0 < n → A = some ⟨blk A, ofs A, none⟩) (hn : n ≤ 1000000) : Ctr Try.prog 9 #[.slice A n c0] [B] (fun v' => star (fact (v' = .bool (rightB l)) :: [B])) false := by
 refine spec_of_at (fn := Try.f9) (c := bd9) (args := [.slice A n c0]) (n := 50) (e := [(0, .slice A n c0)]) (k := pt9_10) Try.func9 (by kernel_rfl) (by kernel_rfl) (by kernel_rfl) (by kernel_rfl) 300 (by kernel_rfl) ?_
 refine At.region (ops := opt9_10) (m := 1) (k' := kt9_11) (by kernel_rfl) 300 (k'' := pt9_11) (by kernel_rfl) ?_
 refine SOps.pures 1 (i' := 1) (m' := 0) (e' := [(2, .bool false), (0, .slice A n c0)]) (by intro u; kernel_rfl) ?_
 refine SOps.nil (.inl rfl) ?_
 refine At.pick [0] (e' := [(0, .slice A n c0)]) (by kernel_rfl) ?_
 refine At.region (ops := opt9_11) (m := 3) (k' := kt9_12) (by kernel_rfl) 300 (k'' := pt9_0) (by kernel_rfl) ?_
 refine SOps.pures 3 (i' := 3) (m' := 0) (e' := [(7, .int .i64 0), (6, .int .i64 (n : Int)), (5, .slice A n c0), (0, .slice A n c0)]) (by intro u; kernel_rfl) ?_
 refine SOps.nil (.inl rfl) ?_
 refine At.pick [0, 5, 6, 7] (e' := [(0, .slice A n c0), (5, .slice A n c0), (6, .int .i64 (n : Int)), (7, .int .i64 0)]) (by kernel_rfl) ?_
 exact right9_loop B A l n c0 hl hB hA hn (n + 1) 0 (by omega) (by omega) (fun i hi => by omega)
end Go.Proofs.Dl
