/- WeeklyRings. -/
import Derived.Test.YtiaapecdhcibnaaWkG
import Derived.Test.YtiaapecdhcibnaaWkY
import Derived.Test.YtiaapecdhcibnaaS10
namespace Go.Proofs.Wk
open Go Go.Sp Go.Wk
set_option linter.unusedVariables false
set_option linter.unusedSimpArgs false
set_option linter.unnecessarySimpa false
set_option maxRecDepth 100000
noncomputable def bd3 : Code := (Try.f3.body).getD .skip
noncomputable def kt3_0 : List Item := .code (pick [1, 1, 1, 1, 1, 1, 1] bd3) :: []
noncomputable def kt3_1 : List Item := .inBlock 0 :: kt3_0
noncomputable def kt3_2 : List Item := .inLoop (pick [1, 1, 1, 1, 1, 1, 0, 1, 0, 0] bd3) :: kt3_1
noncomputable def kt3_3 : List Item := .code (pick [1, 1, 1, 1, 1, 1, 0, 1, 0, 0, 1] bd3) :: kt3_2
noncomputable def pt3_0 : List Item := .code (pick [1, 1, 1, 1, 1, 1, 0, 1, 0, 0, 0] bd3) :: kt3_3
noncomputable def opt3_0 : Array Oper := opsOf (pick [1, 1, 1, 1, 1, 1, 0, 1, 0, 0, 0] bd3)
noncomputable def kt3_4 : List Item := .code (pick [1, 1, 1, 1, 1, 1, 0, 1, 0, 0, 1, 1] bd3) :: kt3_2
noncomputable def pt3_1 : List Item := .code (pick [1, 1, 1, 1, 1, 1, 0, 1, 0, 0, 1, 0] bd3) :: kt3_4
noncomputable def kt3_5 : List Item := .code (pick [1, 1, 1, 1, 1, 1, 0, 1, 0, 0, 1, 1, 1] bd3) :: kt3_2
noncomputable def kt3_6 : List Item := .inBlock 1 :: kt3_5
noncomputable def kt3_7 : List Item := .code (pick [1, 1, 1, 1, 1, 1, 0, 1, 0, 0, 1, 1, 0, 0, 1] bd3) :: kt3_6
noncomputable def pt3_2 : List Item := .code (pick [1, 1, 1, 1, 1, 1, 0, 1, 0, 0, 1, 1, 0, 0, 0] bd3) :: kt3_7
noncomputable def opt3_2 : Array Oper := opsOf (pick [1, 1, 1, 1, 1, 1, 0, 1, 0, 0, 1, 1, 0, 0, 0] bd3)
noncomputable def kt3_8 : List Item := .code (pick [1, 1, 1, 1, 1, 1, 1, 1] bd3) :: []
noncomputable def pt3_3 : List Item := .code (pick [1, 1, 1, 1, 1, 1, 1, 0] bd3) :: kt3_8
noncomputable def opt3_3 : Array Oper := opsOf (pick [1, 1, 1, 1, 1, 1, 1, 0] bd3)
noncomputable def kt3_9 : List Item := .code (pick [1, 1, 1, 1, 1, 1, 0, 1, 0, 0, 1, 1, 0, 0, 1, 1] bd3) :: kt3_6
noncomputable def pt3_4 : List Item := .code (pick [1, 1, 1, 1, 1, 1, 0, 1, 0, 0, 1, 1, 0, 0, 1, 0] bd3) :: kt3_9
noncomputable def opt3_4 : Array Oper := opsOf (pick [1, 1, 1, 1, 1, 1, 0, 1, 0, 0, 1, 1, 0, 0, 1, 0] bd3)
noncomputable def pt3_5 : List Item := .code (pick [1, 1, 1, 1, 1, 1, 0, 1, 0, 0, 1, 1, 0, 0, 1, 1] bd3) :: kt3_6
noncomputable def kt3_10 : List Item := .code (pick [1, 1, 1, 1, 1, 1, 0, 1, 0, 0, 1, 1, 0, 0, 1, 1, 0, 1] bd3) :: kt3_6
noncomputable def pt3_6 : List Item := .code (pick [1, 1, 1, 1, 1, 1, 0, 1, 0, 0, 1, 1, 0, 0, 1, 1, 0, 0] bd3) :: kt3_10
noncomputable def opt3_6 : Array Oper := opsOf (pick [1, 1, 1, 1, 1, 1, 0, 1, 0, 0, 1, 1, 0, 0, 1, 1, 0, 0] bd3)
noncomputable def pt3_7 : List Item := .code (pick [1, 1, 1, 1, 1, 1, 0, 1, 0, 0, 1, 1, 1] bd3) :: kt3_2
noncomputable def opt3_7 : Array Oper := opsOf (pick [1, 1, 1, 1, 1, 1, 0, 1, 0, 0, 1, 1, 1] bd3)
noncomputable def pt3_8 : List Item := .code (pick [1, 1, 1, 1, 1, 1, 1, 1] bd3) :: []
noncomputable def kt3_11 : List Item := .code (pick [1] bd3) :: []
noncomputable def pt3_9 : List Item := .code (pick [0] bd3) :: kt3_11
noncomputable def opt3_9 : Array Oper := opsOf (pick [0] bd3)
noncomputable def kt3_12 : List Item := .code (pick [1, 1] bd3) :: []
noncomputable def kt3_13 : List Item := .code (pick [1, 0, 1] bd3) :: kt3_12
noncomputable def pt3_10 : List Item := .code (pick [1, 0, 0] bd3) :: kt3_13
noncomputable def opt3_10 : Array Oper := opsOf (pick [1, 0, 0] bd3)
noncomputable def pt3_11 : List Item := .code (pick [1, 0, 1] bd3) :: kt3_12
noncomputable def kt3_14 : List Item := .code (pick [1, 0, 1, 0, 1] bd3) :: kt3_12
noncomputable def pt3_12 : List Item := .code (pick [1, 0, 1, 0, 0] bd3) :: kt3_14
noncomputable def opt3_12 : Array Oper := opsOf (pick [1, 0, 1, 0, 0] bd3)
noncomputable def kt3_15 : List Item := .code (pick [1, 1, 1] bd3) :: []
noncomputable def kt3_16 : List Item := .code (pick [1, 1, 0, 1] bd3) :: kt3_15
noncomputable def pt3_13 : List Item := .code (pick [1, 1, 0, 0] bd3) :: kt3_16
noncomputable def opt3_13 : Array Oper := opsOf (pick [1, 1, 0, 0] bd3)
noncomputable def pt3_14 : List Item := .code (pick [1, 1, 0, 1] bd3) :: kt3_15
noncomputable def kt3_17 : List Item := .code (pick [1, 1, 0, 1, 0, 1] bd3) :: kt3_15
noncomputable def pt3_15 : List Item := .code (pick [1, 1, 0, 1, 0, 0] bd3) :: kt3_17
noncomputable def opt3_15 : Array Oper := opsOf (pick [1, 1, 0, 1, 0, 0] bd3)
noncomputable def kt3_18 : List Item := .code (pick [1, 1, 1, 1] bd3) :: []
noncomputable def pt3_16 : List Item := .code (pick [1, 1, 1, 0] bd3) :: kt3_18
noncomputable def opt3_16 : Array Oper := opsOf (pick [1, 1, 1, 0] bd3)
noncomputable def pt3_17 : List Item := .code (pick [1, 1, 0, 1, 0, 1] bd3) :: kt3_15
noncomputable def kt3_19 : List Item := .code (pick [1, 1, 1, 1, 1] bd3) :: []
noncomputable def pt3_18 : List Item := .code (pick [1, 1, 1, 1, 0] bd3) :: kt3_19
noncomputable def opt3_18 : Array Oper := opsOf (pick [1, 1, 1, 1, 0] bd3)
noncomputable def kt3_20 : List Item := .code (pick [1, 1, 1, 1, 1, 1] bd3) :: []
noncomputable def kt3_21 : List Item := .code (pick [1, 1, 1, 1, 1, 0, 1] bd3) :: kt3_20
noncomputable def pt3_19 : List Item := .code (pick [1, 1, 1, 1, 1, 0, 0] bd3) :: kt3_21
noncomputable def opt3_19 : Array Oper := opsOf (pick [1, 1, 1, 1, 1, 0, 0] bd3)
noncomputable def pt3_20 : List Item := .code (pick [1, 1, 1, 1, 1, 0, 1] bd3) :: kt3_20
noncomputable def kt3_22 : List Item := .code (pick [1, 1, 1, 1, 1, 0, 1, 0, 1] bd3) :: kt3_20
noncomputable def pt3_21 : List Item := .code (pick [1, 1, 1, 1, 1, 0, 1, 0, 0] bd3) :: kt3_22
noncomputable def opt3_21 : Array Oper := opsOf (pick [1, 1, 1, 1, 1, 0, 1, 0, 0] bd3)
noncomputable def kt3_23 : List Item := .code (pick [1, 1, 1, 1, 1, 1, 0, 1] bd3) :: kt3_0
noncomputable def pt3_22 : List Item := .code (pick [1, 1, 1, 1, 1, 1, 0, 0] bd3) :: kt3_23
noncomputable def opt3_22 : Array Oper := opsOf (pick [1, 1, 1, 1, 1, 1, 0, 0] bd3)
theorem weekRings_loop (B : Asn) (A : Option Addr) (l : List Doing) (N c1 : Nat) (hl : l.length = N) (hB : InB B A (l.flatMap encC)) (hA : 0 < N → A = some ⟨blk A, ofs A, none⟩) (hu : ∀ i, i < N → 0 ≤ (l.getD i c0).kind) (m : Int) (s c2 c3 : Nat) (S1 S2 : Option Addr) (hg : GoodA (madeL l)) : ∀ (mm k : Nat), (madeL l).length - k < mm → k ≤ (madeL l).length → At ⟨Try.prog, 3, (fun v' => star (fact (v' = .bool true) :: [B])), 54, false⟩ pt3_0 [(1, .int .i64 m), (5, .pointer (some ⟨s, 0, none⟩)), (6, .slice S1 ((madeL l).length) c2), (8, .slice S2 ((madeL l).length) c3), (33, .int .i64 ((madeL l).length : Int)), (34, .int .i64 (k : Int))] [Grow S1 c2 30 4 ((madeL l).length) ((madeL l).flatMap encA), Grow S2 c3 30 4 ((madeL l).length) ((madeL l).flatMap encA), SetC s (madeL l), B] := by
 have hlen := hg.len
 intro mm
 induction mm with
 | zero => intro k h; omega
 | succ mm ih =>
  intro k hm hk
  refine At.region (ops := opt3_0) (m := 1) (k' := kt3_3) (by kernel_rfl) 300 (k'' := pt3_1) (by kernel_rfl) ?_
  refine SOps.pures 1 (i' := 1) (m' := 0) (e' := [(35, .bool (decide ((k : Int) < ((madeL l).length : Int)))), (1, .int .i64 m), (5, .pointer (some ⟨s, 0, none⟩)), (6, .slice S1 ((madeL l).length) c2), (8, .slice S2 ((madeL l).length) c3), (33, .int .i64 ((madeL l).length : Int)), (34, .int .i64 (k : Int))]) (by intro u; kernel_rfl) ?_
  refine SOps.nil (.inl rfl) ?_
  refine At.pick [1, 5, 6, 8, 33, 34, 35] (e' := [(1, .int .i64 m), (5, .pointer (some ⟨s, 0, none⟩)), (6, .slice S1 ((madeL l).length) c2), (8, .slice S2 ((madeL l).length) c3), (33, .int .i64 ((madeL l).length : Int)), (34, .int .i64 (k : Int)), (35, .bool (decide ((k : Int) < ((madeL l).length : Int))))]) (by kernel_rfl) ?_
  refine At.split (fun zq => [(1, .int .i64 m), (5, .pointer (some ⟨s, 0, none⟩)), (6, .slice S1 ((madeL l).length) c2), (8, .slice S2 ((madeL l).length) c3), (33, .int .i64 ((madeL l).length : Int)), (34, .int .i64 (k : Int)), (35, .bool zq)]) (decide ((k : Int) < ((madeL l).length : Int))) (fun hx1 => ?_) (fun hx1 => ?_)
  ·have hx1 : (k : Int) < ((madeL l).length : Int) := by simpa using hx1
   refine At.cond 300 true (c := .tmp 35) (k1 := pt3_2) (k2 := pt3_3) (by kernel_rfl) (by intro u; kernel_rfl) (fun _ => ?_) (fun h => by cases h)
   refine At.pick [1, 5, 6, 8, 33, 34] (e' := [(1, .int .i64 m), (5, .pointer (some ⟨s, 0, none⟩)), (6, .slice S1 ((madeL l).length) c2), (8, .slice S2 ((madeL l).length) c3), (33, .int .i64 ((madeL l).length : Int)), (34, .int .i64 (k : Int))]) (by kernel_rfl) ?_
   refine At.region (ops := opt3_2) (m := 2) (k' := kt3_7) (by kernel_rfl) 300 (k'' := pt3_4) (by kernel_rfl) ?_
   refine SOps.pures 2 (i' := 2) (m' := 0) (e' := [(9, .int .i64 (k : Int)), (36, .int .i64 (k : Int)), (1, .int .i64 m), (5, .pointer (some ⟨s, 0, none⟩)), (6, .slice S1 ((madeL l).length) c2), (8, .slice S2 ((madeL l).length) c3), (33, .int .i64 ((madeL l).length : Int)), (34, .int .i64 (k : Int))]) (by intro u; kernel_rfl) ?_
   refine SOps.nil (.inl rfl) ?_
   refine At.pick [1, 5, 6, 8, 9, 33, 34] (e' := [(1, .int .i64 m), (5, .pointer (some ⟨s, 0, none⟩)), (6, .slice S1 ((madeL l).length) c2), (8, .slice S2 ((madeL l).length) c3), (9, .int .i64 (k : Int)), (33, .int .i64 ((madeL l).length : Int)), (34, .int .i64 (k : Int))]) (by kernel_rfl) ?_
   refine At.regionQ (ops := opt3_4) (m := 9) (k' := kt3_9) (by kernel_rfl) 300 (k'' := pt3_5) (by kernel_rfl) (by kernel_rfl) (by kernel_rfl) ?_
   refine SOps.pures 2 (i' := 2) (m' := 7) (e' := [(38, .int .i64 (k : Int)), (37, .slice S2 ((madeL l).length) c3), (1, .int .i64 m), (5, .pointer (some ⟨s, 0, none⟩)), (6, .slice S1 ((madeL l).length) c2), (8, .slice S2 ((madeL l).length) c3), (9, .int .i64 (k : Int)), (33, .int .i64 ((madeL l).length : Int)), (34, .int .i64 (k : Int))]) (by intro u; kernel_rfl) ?_
   refine SOps.learn (fun F w ho => Grow.some (j := 1) ho rfl) (fun hS2 => ?_)
   refine SOps.v (Val.pv 39 (vN (Instr.indexAt 25 (.slice S2 ((madeL l).length) c3) (.int .i64 (k : Int)))) (.pointer (some ⟨(blk S2), k * 4, none⟩)) (by intro u; kernel_rfl) (pv_indexO (el := 30) (sz := 4) (by kernel_rfl) (by kernel_rfl) (by omega) (by omega) (hS2.1 (by omega)) (by omega))) ?_
   refine SOps.v (Val.ldN 1 40 30 (blk S2) (k * 4) 4 [.int .i64 (((madeL l).getD k a0).id), .int .i64 (((madeL l).getD k a0).minute), .int .i64 (((madeL l).getD k a0).days), .bool (((madeL l).getD k a0).off)] rfl (by intro u; kernel_rfl) (by kernel_rfl) (by kernel_rfl) rfl ⟨(Rd.grow (flat_get encA 4 (fun _ => rfl) (madeL l) k 0 ((madeL l).getD k a0) _ (getD_some (by omega)) rfl)), (Rd.grow (flat_get encA 4 (fun _ => rfl) (madeL l) k 1 ((madeL l).getD k a0) _ (getD_some (by omega)) rfl)), (Rd.grow (flat_get encA 4 (fun _ => rfl) (madeL l) k 2 ((madeL l).getD k a0) _ (getD_some (by omega)) rfl)), (Rd.grow (flat_get encA 4 (fun _ => rfl) (madeL l) k 3 ((madeL l).getD k a0) _ (getD_some (by omega)) rfl)), trivial⟩) ?_
   refine SOps.pures 2 (i' := 6) (m' := 3) (e' := [(42, .int .i64 (k : Int)), (41, .slice S1 ((madeL l).length) c2), (40, .agg #[.int .i64 (((madeL l).getD k a0).id), .int .i64 (((madeL l).getD k a0).minute), .int .i64 (((madeL l).getD k a0).days), .bool (((madeL l).getD k a0).off)]), (39, .pointer (some ⟨(blk S2), k * 4, none⟩)), (38, .int .i64 (k : Int)), (37, .slice S2 ((madeL l).length) c3), (1, .int .i64 m), (5, .pointer (some ⟨s, 0, none⟩)), (6, .slice S1 ((madeL l).length) c2), (8, .slice S2 ((madeL l).length) c3), (9, .int .i64 (k : Int)), (33, .int .i64 ((madeL l).length : Int)), (34, .int .i64 (k : Int))]) (by intro u; kernel_rfl) ?_
   refine SOps.learn (fun F w ho => Grow.some (j := 0) ho rfl) (fun hS1 => ?_)
   refine SOps.v (Val.pv 43 (vN (Instr.indexAt 25 (.slice S1 ((madeL l).length) c2) (.int .i64 (k : Int)))) (.pointer (some ⟨(blk S1), k * 4, none⟩)) (by intro u; kernel_rfl) (pv_indexO (el := 30) (sz := 4) (by kernel_rfl) (by kernel_rfl) (by omega) (by omega) (hS1.1 (by omega)) (by omega))) ?_
   refine SOps.v (Val.ldN 0 44 30 (blk S1) (k * 4) 4 [.int .i64 (((madeL l).getD k a0).id), .int .i64 (((madeL l).getD k a0).minute), .int .i64 (((madeL l).getD k a0).days), .bool (((madeL l).getD k a0).off)] rfl (by intro u; kernel_rfl) (by kernel_rfl) (by kernel_rfl) rfl ⟨(Rd.grow (flat_get encA 4 (fun _ => rfl) (madeL l) k 0 ((madeL l).getD k a0) _ (getD_some (by omega)) rfl)), (Rd.grow (flat_get encA 4 (fun _ => rfl) (madeL l) k 1 ((madeL l).getD k a0) _ (getD_some (by omega)) rfl)), (Rd.grow (flat_get encA 4 (fun _ => rfl) (madeL l) k 2 ((madeL l).getD k a0) _ (getD_some (by omega)) rfl)), (Rd.grow (flat_get encA 4 (fun _ => rfl) (madeL l) k 3 ((madeL l).getD k a0) _ (getD_some (by omega)) rfl)), trivial⟩) ?_
   have hself : (!(((madeL l).getD k a0).id == ((madeL l).getD k a0).id && (((madeL l).getD k a0).minute == ((madeL l).getD k a0).minute && (((madeL l).getD k a0).days == ((madeL l).getD k a0).days && (((madeL l).getD k a0).off == ((madeL l).getD k a0).off && true))))) = false := by simp
   refine SOps.v (Val.of 45 (vN (do eqGuard .neq 30 (.tmp 40) (.tmp 44) (.agg #[.int .i64 (((madeL l).getD k a0).id), .int .i64 (((madeL l).getD k a0).minute), .int .i64 (((madeL l).getD k a0).days), .bool (((madeL l).getD k a0).off)]) (.agg #[.int .i64 (((madeL l).getD k a0).id), .int .i64 (((madeL l).getD k a0).minute), .int .i64 (((madeL l).getD k a0).days), .bool (((madeL l).getD k a0).off)]); binOp .neq 30 (.agg #[.int .i64 (((madeL l).getD k a0).id), .int .i64 (((madeL l).getD k a0).minute), .int .i64 (((madeL l).getD k a0).days), .bool (((madeL l).getD k a0).off)]) (.agg #[.int .i64 (((madeL l).getD k a0).id), .int .i64 (((madeL l).getD k a0).minute), .int .i64 (((madeL l).getD k a0).days), .bool (((madeL l).getD k a0).off)]))) (.bool false) (by intro u; kernel_rfl) (fun F w ho => by have h := run_neqS (P := Try.prog) (t := 30) (xs := #[.int .i64 (((madeL l).getD k a0).id), .int .i64 (((madeL l).getD k a0).minute), .int .i64 (((madeL l).getD k a0).days), .bool (((madeL l).getD k a0).off)]) (ys := #[.int .i64 (((madeL l).getD k a0).id), .int .i64 (((madeL l).getD k a0).minute), .int .i64 (((madeL l).getD k a0).days), .bool (((madeL l).getD k a0).off)]) (r := (((madeL l).getD k a0).id == ((madeL l).getD k a0).id && (((madeL l).getD k a0).minute == ((madeL l).getD k a0).minute && (((madeL l).getD k a0).days == ((madeL l).getD k a0).days && (((madeL l).getD k a0).off == ((madeL l).getD k a0).off && true))))) (x := .tmp 40) (y := .tmp 44) (by kernel_rfl) (by kernel_rfl) (by kernel_rfl) (by kernel_rfl) (by kernel_rfl) w; rw [hself] at h; exact h)) ?_
   refine SOps.nil (.inr (by kernel_rfl)) ?_
   refine At.pick [1, 5, 6, 8, 33, 34, 45] (e' := [(1, .int .i64 m), (5, .pointer (some ⟨s, 0, none⟩)), (6, .slice S1 ((madeL l).length) c2), (8, .slice S2 ((madeL l).length) c3), (33, .int .i64 ((madeL l).length : Int)), (34, .int .i64 (k : Int)), (45, .bool false)]) (by kernel_rfl) ?_
   refine At.cond 300 false (c := .tmp 45) (k1 := pt3_6) (k2 := pt3_7) (by kernel_rfl) (by intro u; kernel_rfl) (fun h => by cases h) (fun _ => ?_)
   refine At.pick [1, 5, 6, 8, 33, 34] (e' := [(1, .int .i64 m), (5, .pointer (some ⟨s, 0, none⟩)), (6, .slice S1 ((madeL l).length) c2), (8, .slice S2 ((madeL l).length) c3), (33, .int .i64 ((madeL l).length : Int)), (34, .int .i64 (k : Int))]) (by kernel_rfl) ?_
   refine At.region (ops := opt3_7) (m := 2) (k' := kt3_2) (by kernel_rfl) 300 (k'' := pt3_0) (by kernel_rfl) ?_
   refine SOps.v (Val.pe 46 (.int .i64 (IntKind.i64.wrap ((k : Int) + 1))) (.int .i64 ((k + 1 : Nat) : Int)) (by intro u; kernel_rfl) (i64_in (by omega) (by omega) (by omega))) ?_
   refine SOps.pures 1 (i' := 2) (m' := 0) (e' := [(34, .int .i64 ((k + 1 : Nat) : Int)), (46, .int .i64 ((k + 1 : Nat) : Int)), (1, .int .i64 m), (5, .pointer (some ⟨s, 0, none⟩)), (6, .slice S1 ((madeL l).length) c2), (8, .slice S2 ((madeL l).length) c3), (33, .int .i64 ((madeL l).length : Int)), (34, .int .i64 (k : Int))]) (by intro u; kernel_rfl) ?_
   refine SOps.nil (.inl rfl) ?_
   refine At.pick [1, 5, 6, 8, 33, 34] (e' := [(1, .int .i64 m), (5, .pointer (some ⟨s, 0, none⟩)), (6, .slice S1 ((madeL l).length) c2), (8, .slice S2 ((madeL l).length) c3), (33, .int .i64 ((madeL l).length : Int)), (34, .int .i64 ((k + 1 : Nat) : Int))]) (by kernel_rfl) ?_
   refine At.keep [0, 0, 0, 0] (B := [Grow S1 c2 30 4 ((madeL l).length) ((madeL l).flatMap encA), Grow S2 c3 30 4 ((madeL l).length) ((madeL l).flatMap encA), SetC s (madeL l), B]) (D := []) rfl ?_
   exact ih (k + 1) (by omega) (by omega)
  ·have hx1 : (k : Int) ≥ ((madeL l).length : Int) := by simpa using hx1
   refine At.cond 300 false (c := .tmp 35) (k1 := pt3_2) (k2 := pt3_3) (by kernel_rfl) (by intro u; kernel_rfl) (fun h => by cases h) (fun _ => ?_)
   refine At.pick [1, 5, 6] (e' := [(1, .int .i64 m), (5, .pointer (some ⟨s, 0, none⟩)), (6, .slice S1 ((madeL l).length) c2)]) (by kernel_rfl) ?_
   have hrl := ringsL_len (madeL l) m
   refine At.region (ops := opt3_3) (m := 8) (k' := kt3_8) (by kernel_rfl) 300 (k'' := pt3_8) (by kernel_rfl) ?_
   refine SOps.pures 2 (i' := 2) (m' := 6) (e' := [(48, .int .i64 m), (47, .pointer (some ⟨s, 0, none⟩)), (1, .int .i64 m), (5, .pointer (some ⟨s, 0, none⟩)), (6, .slice S1 ((madeL l).length) c2)]) (by intro u; kernel_rfl) ?_
   refine SOps.o (Op.callX 49 10 #[.pointer (some ⟨s, 0, none⟩), .int .i64 m] _ _ [2] (B := [SetC s (madeL l)]) (D := [Grow S1 c2 30 4 ((madeL l).length) ((madeL l).flatMap encA), Grow S2 c3 30 4 ((madeL l).length) ((madeL l).flatMap encA), B]) (by intro u; kernel_rfl) (ringsS s (madeL l) hg m) (by first | exact .inr rfl | exact .inl rfl) (by kernel_rfl) ?_)
   rintro ⟨Sx2, cx3⟩ -
   refine SOps.pures 2 (i' := 5) (m' := 3) (e' := [(51, .int .i64 m), (50, .slice S1 ((madeL l).length) c2), (49, .slice Sx2 ((ringsL (madeL l) m).length) cx3), (48, .int .i64 m), (47, .pointer (some ⟨s, 0, none⟩)), (1, .int .i64 m), (5, .pointer (some ⟨s, 0, none⟩)), (6, .slice S1 ((madeL l).length) c2)]) (by intro u; kernel_rfl) ?_
   refine SOps.o (Op.callX 52 11 #[.slice S1 ((madeL l).length) c2, .int .i64 m] _ _ [2] (B := [Grow S1 c2 30 4 ((madeL l).length) ((madeL l).flatMap encA)]) (D := [Grow Sx2 cx3 3 1 ((ringsL (madeL l) m).length) (ints (ringsL (madeL l) m)), SetC s (madeL l), Grow S2 c3 30 4 ((madeL l).length) ((madeL l).flatMap encA), B]) (by intro u; kernel_rfl) (lrings S1 c2 (madeL l) hg m) (by first | exact .inr rfl | exact .inl rfl) (by kernel_rfl) ?_)
   rintro ⟨Sx4, cx5⟩ -
   have hc := same Sx2 Sx4 ((ringsL (madeL l) m).length) ((ringsL (madeL l) m).length) cx3 cx5 (ringsL (madeL l) m) (ringsL (madeL l) m) rfl rfl (by omega)
   rw [show decide ((ringsL (madeL l) m) = (ringsL (madeL l) m)) = true from decide_eq_true rfl] at hc
   refine SOps.o (Op.callS 53 9 #[.slice Sx2 ((ringsL (madeL l) m).length) cx3, .slice Sx4 ((ringsL (madeL l) m).length) cx5] (.bool true) [2, 0] (B := [Grow Sx2 cx3 3 1 ((ringsL (madeL l) m).length) (ints (ringsL (madeL l) m)), Grow Sx4 cx5 3 1 ((ringsL (madeL l) m).length) (ints (ringsL (madeL l) m))]) (D := [Grow S1 c2 30 4 ((madeL l).length) ((madeL l).flatMap encA), SetC s (madeL l), Grow S2 c3 30 4 ((madeL l).length) ((madeL l).flatMap encA), B]) (by intro u; kernel_rfl) (hc) (by first | exact .inr rfl | exact .inl rfl) (by kernel_rfl) ?_)
   refine SOps.pures 1 (i' := 8) (m' := 0) (e' := [(4, .bool true), (53, .bool true), (52, .slice Sx4 ((ringsL (madeL l) m).length) cx5), (51, .int .i64 m), (50, .slice S1 ((madeL l).length) c2), (49, .slice Sx2 ((ringsL (madeL l) m).length) cx3), (48, .int .i64 m), (47, .pointer (some ⟨s, 0, none⟩)), (1, .int .i64 m), (5, .pointer (some ⟨s, 0, none⟩)), (6, .slice S1 ((madeL l).length) c2)]) (by intro u; kernel_rfl) ?_
   refine SOps.nil (.inl rfl) ?_
   refine At.pick [4] (e' := [(4, .bool true)]) (by kernel_rfl) ?_
   refine At.ret1 (fn := Try.f3) (v := .bool true) (t := 4) (by kernel_rfl) Try.func3 (by kernel_rfl) (by kernel_rfl) (fun F w ho => ?_)
   exact shutV rfl [5] rfl ho
theorem weekRings (B : Asn) (A : Option Addr) (l : List Doing) (N c1 : Nat) (hl : l.length = N) (hB : InB B A (l.flatMap encC)) (hA : 0 < N → A = some ⟨blk A, ofs A, none⟩) (hu : ∀ i, i < N → 0 ≤ (l.getD i c0).kind) (m : Int) : Ctr Try.prog 3 #[.slice A N c1, .int .i64 m] [B] (fun v' => star (fact (v' = .bool true) :: [B])) false := by
 refine spec_of_at (fn := Try.f3) (c := bd3) (args := [.slice A N c1, .int .i64 m]) (n := 54) (e := [(0, .slice A N c1), (1, .int .i64 m)]) (k := pt3_9) Try.func3 (by kernel_rfl) (by kernel_rfl) (by kernel_rfl) (by kernel_rfl) 300 (by kernel_rfl) ?_
 refine At.region (ops := opt3_9) (m := 1) (k' := kt3_11) (by kernel_rfl) 300 (k'' := pt3_10) (by kernel_rfl) ?_
 refine SOps.pures 1 (i' := 1) (m' := 0) (e' := [(4, .bool false), (0, .slice A N c1), (1, .int .i64 m)]) (by intro u; kernel_rfl) ?_
 refine SOps.nil (.inl rfl) ?_
 refine At.pick [0, 1] (e' := [(0, .slice A N c1), (1, .int .i64 m)]) (by kernel_rfl) ?_
 refine At.region (ops := opt3_10) (m := 2) (k' := kt3_13) (by kernel_rfl) 300 (k'' := pt3_11) (by kernel_rfl) ?_
 refine SOps.o (Op.callS 10 6 #[] (.bool true) [] (B := []) (D := [B]) (by intro u; kernel_rfl) (fixedW ) (by first | exact .inr rfl | exact .inl rfl) (by kernel_rfl) ?_)
 refine SOps.pures 1 (i' := 2) (m' := 0) (e' := [(11, .bool false), (10, .bool true), (0, .slice A N c1), (1, .int .i64 m)]) (by intro u; kernel_rfl) ?_
 refine SOps.nil (.inl rfl) ?_
 refine At.pick [0, 1, 11] (e' := [(0, .slice A N c1), (1, .int .i64 m), (11, .bool false)]) (by kernel_rfl) ?_
 refine At.cond 300 false (c := .tmp 11) (k1 := pt3_12) (k2 := pt3_13) (by kernel_rfl) (by intro u; kernel_rfl) (fun h => by cases h) (fun _ => ?_)
 refine At.pick [0, 1] (e' := [(0, .slice A N c1), (1, .int .i64 m)]) (by kernel_rfl) ?_
 refine At.region (ops := opt3_13) (m := 3) (k' := kt3_16) (by kernel_rfl) 300 (k'' := pt3_14) (by kernel_rfl) ?_
 refine SOps.pures 3 (i' := 3) (m' := 0) (e' := [(14, .bool (decide ((N : Int) > 100))), (13, .int .i64 (N : Int)), (12, .slice A N c1), (0, .slice A N c1), (1, .int .i64 m)]) (by intro u; kernel_rfl) ?_
 refine SOps.nil (.inl rfl) ?_
 refine At.pick [0, 1, 14] (e' := [(0, .slice A N c1), (1, .int .i64 m), (14, .bool (decide ((N : Int) > 100)))]) (by kernel_rfl) ?_
 refine At.split (fun zq => [(0, .slice A N c1), (1, .int .i64 m), (14, .bool zq)]) (decide ((N : Int) > 100)) (fun hx1 => ?_) (fun hx1 => ?_)
 ·have hx1 : (N : Int) > 100 := by simpa using hx1
  refine At.cond 300 true (c := .tmp 14) (k1 := pt3_15) (k2 := pt3_16) (by kernel_rfl) (by intro u; kernel_rfl) (fun _ => ?_) (fun h => by cases h)
  refine At.pick [] (e' := []) (by kernel_rfl) ?_
  refine At.region (ops := opt3_15) (m := 1) (k' := kt3_17) (by kernel_rfl) 300 (k'' := pt3_17) (by kernel_rfl) ?_
  refine SOps.pures 1 (i' := 1) (m' := 0) (e' := [(4, .bool true)]) (by intro u; kernel_rfl) ?_
  refine SOps.nil (.inl rfl) ?_
  refine At.ret1 (fn := Try.f3) (v := .bool true) (t := 4) (by kernel_rfl) Try.func3 (by kernel_rfl) (by kernel_rfl) (fun F w ho => ?_)
  exact shutV rfl [0] rfl ho
 ·have hx1 : (N : Int) ≤ 100 := by simpa using hx1
  refine At.cond 300 false (c := .tmp 14) (k1 := pt3_15) (k2 := pt3_16) (by kernel_rfl) (by intro u; kernel_rfl) (fun h => by cases h) (fun _ => ?_)
  refine At.pick [0, 1] (e' := [(0, .slice A N c1), (1, .int .i64 m)]) (by kernel_rfl) ?_
  refine At.region (ops := opt3_16) (m := 9) (k' := kt3_18) (by kernel_rfl) 300 (k'' := pt3_18) (by kernel_rfl) ?_
  refine SOps.pures 1 (i' := 1) (m' := 8) (e' := [(16, .slice A N c1), (0, .slice A N c1), (1, .int .i64 m)]) (by intro u; kernel_rfl) ?_
  have hg : GoodA (madeL l) := by have := madeL_good l N; rwa [List.take_of_length_le (by omega)] at this
  have hlen := hg.len
  refine SOps.o (Op.callX 17 7 #[.slice A N c1] _ _ [0] (B := [B]) (D := []) (by intro u; kernel_rfl) (madeS B A l N c1 hl hB hA (by omega) hu) (by first | exact .inr rfl | exact .inl rfl) (by kernel_rfl) ?_)
  rintro ⟨sx2, Sx3, cx4⟩ -
  refine SOps.pures 7 (i' := 9) (m' := 0) (e' := [(7, .bool true), (6, .slice Sx3 ((madeL l).length) cx4), (5, .pointer (some ⟨sx2, 0, none⟩)), (20, .bool true), (19, .slice Sx3 ((madeL l).length) cx4), (18, .pointer (some ⟨sx2, 0, none⟩)), (15, .tuple #[.pointer (some ⟨sx2, 0, none⟩), .slice Sx3 ((madeL l).length) cx4, .bool true]), (17, .tuple #[.pointer (some ⟨sx2, 0, none⟩), .slice Sx3 ((madeL l).length) cx4, .bool true]), (16, .slice A N c1), (0, .slice A N c1), (1, .int .i64 m)]) (by intro u; kernel_rfl) ?_
  refine SOps.nil (.inl rfl) ?_
  refine At.pick [1, 5, 6, 7] (e' := [(1, .int .i64 m), (5, .pointer (some ⟨sx2, 0, none⟩)), (6, .slice Sx3 ((madeL l).length) cx4), (7, .bool true)]) (by kernel_rfl) ?_
  refine At.region (ops := opt3_18) (m := 3) (k' := kt3_19) (by kernel_rfl) 300 (k'' := pt3_19) (by kernel_rfl) ?_
  refine SOps.pures 1 (i' := 1) (m' := 2) (e' := [(21, .pointer (some ⟨sx2, 0, none⟩)), (1, .int .i64 m), (5, .pointer (some ⟨sx2, 0, none⟩)), (6, .slice Sx3 ((madeL l).length) cx4), (7, .bool true)]) (by intro u; kernel_rfl) ?_
  refine SOps.o (Op.callX 22 8 #[.pointer (some ⟨sx2, 0, none⟩)] _ _ [0] (B := [SetC sx2 (madeL l)]) (D := [Grow Sx3 cx4 30 4 ((madeL l).length) ((madeL l).flatMap encA), B]) (by intro u; kernel_rfl) (allS sx2 (madeL l) hg) (by first | exact .inr rfl | exact .inl rfl) (by kernel_rfl) ?_)
  rintro ⟨Sx5, cx6⟩ -
  refine SOps.pures 1 (i' := 3) (m' := 0) (e' := [(8, .slice Sx5 ((madeL l).length) cx6), (22, .slice Sx5 ((madeL l).length) cx6), (21, .pointer (some ⟨sx2, 0, none⟩)), (1, .int .i64 m), (5, .pointer (some ⟨sx2, 0, none⟩)), (6, .slice Sx3 ((madeL l).length) cx4), (7, .bool true)]) (by intro u; kernel_rfl) ?_
  refine SOps.nil (.inl rfl) ?_
  refine At.pick [1, 5, 6, 7, 8] (e' := [(1, .int .i64 m), (5, .pointer (some ⟨sx2, 0, none⟩)), (6, .slice Sx3 ((madeL l).length) cx4), (7, .bool true), (8, .slice Sx5 ((madeL l).length) cx6)]) (by kernel_rfl) ?_
  refine At.region (ops := opt3_19) (m := 9) (k' := kt3_21) (by kernel_rfl) 300 (k'' := pt3_20) (by kernel_rfl) ?_
  refine SOps.pures 9 (i' := 9) (m' := 0) (e' := [(31, .bool ((((madeL l).length : Nat) : Int) != (((madeL l).length : Nat) : Int))), (30, .bool ((((madeL l).length : Nat) : Int) != (((madeL l).length : Nat) : Int))), (29, .int .i64 (((madeL l).length : Nat) : Int)), (28, .slice Sx3 ((madeL l).length) cx4), (27, .int .i64 (((madeL l).length : Nat) : Int)), (26, .slice Sx5 ((madeL l).length) cx6), (25, .bool false), (24, .bool false), (23, .bool true), (1, .int .i64 m), (5, .pointer (some ⟨sx2, 0, none⟩)), (6, .slice Sx3 ((madeL l).length) cx4), (7, .bool true), (8, .slice Sx5 ((madeL l).length) cx6)]) (by intro u; kernel_rfl) ?_
  refine SOps.nil (.inl rfl) ?_
  refine At.pick [1, 5, 6, 8, 31] (e' := [(1, .int .i64 m), (5, .pointer (some ⟨sx2, 0, none⟩)), (6, .slice Sx3 ((madeL l).length) cx4), (8, .slice Sx5 ((madeL l).length) cx6), (31, .bool ((((madeL l).length : Nat) : Int) != (((madeL l).length : Nat) : Int)))]) (by kernel_rfl) ?_
  refine At.split (fun zq => [(1, .int .i64 m), (5, .pointer (some ⟨sx2, 0, none⟩)), (6, .slice Sx3 ((madeL l).length) cx4), (8, .slice Sx5 ((madeL l).length) cx6), (31, .bool zq)]) (((((madeL l).length : Nat) : Int) != (((madeL l).length : Nat) : Int))) (fun hx7 => ?_) (fun hx7 => ?_)
  ·have hx7 : (((madeL l).length : Nat) : Int) ≠ (((madeL l).length : Nat) : Int) := by simpa using hx7
   exact absurd hx7 (by omega)
  ·have hx7 : (((madeL l).length : Nat) : Int) = (((madeL l).length : Nat) : Int) := by simpa using hx7
   refine At.cond 300 false (c := .tmp 31) (k1 := pt3_21) (k2 := pt3_22) (by kernel_rfl) (by intro u; kernel_rfl) (fun h => by cases h) (fun _ => ?_)
   refine At.pick [1, 5, 6, 8] (e' := [(1, .int .i64 m), (5, .pointer (some ⟨sx2, 0, none⟩)), (6, .slice Sx3 ((madeL l).length) cx4), (8, .slice Sx5 ((madeL l).length) cx6)]) (by kernel_rfl) ?_
   refine At.region (ops := opt3_22) (m := 3) (k' := kt3_23) (by kernel_rfl) 300 (k'' := pt3_0) (by kernel_rfl) ?_
   refine SOps.pures 3 (i' := 3) (m' := 0) (e' := [(34, .int .i64 0), (33, .int .i64 (((madeL l).length : Nat) : Int)), (32, .slice Sx5 ((madeL l).length) cx6), (1, .int .i64 m), (5, .pointer (some ⟨sx2, 0, none⟩)), (6, .slice Sx3 ((madeL l).length) cx4), (8, .slice Sx5 ((madeL l).length) cx6)]) (by intro u; kernel_rfl) ?_
   refine SOps.nil (.inl rfl) ?_
   refine At.pick [1, 5, 6, 8, 33, 34] (e' := [(1, .int .i64 m), (5, .pointer (some ⟨sx2, 0, none⟩)), (6, .slice Sx3 ((madeL l).length) cx4), (8, .slice Sx5 ((madeL l).length) cx6), (33, .int .i64 (((madeL l).length : Nat) : Int)), (34, .int .i64 0)]) (by kernel_rfl) ?_
   refine At.keep [2, 0, 0, 0] (B := [Grow Sx3 cx4 30 4 ((madeL l).length) ((madeL l).flatMap encA), Grow Sx5 cx6 30 4 ((madeL l).length) ((madeL l).flatMap encA), SetC sx2 (madeL l), B]) (D := []) rfl ?_
   exact weekRings_loop B A l N c1 hl hB hA hu m sx2 cx4 cx6 Sx3 Sx5 hg ((madeL l).length + 1) 0 (by omega) (by omega)
end Go.Proofs.Wk
