/- Weekly: rows of alarms: one out, one in. -/
import Derived.Test.YtiaapecdhcibnaaWkB
namespace Go.Proofs.Wk
open Go Go.Sp Go.Wk
set_option linter.unusedVariables false
set_option linter.unusedSimpArgs false
set_option linter.unnecessarySimpa false
set_option maxRecDepth 100000
noncomputable def bd24 : Code := (Try.f24.body).getD .skip
noncomputable def kt24_0 : List Item := .code (pick [1] bd24) :: []
noncomputable def pt24_0 : List Item := .code (pick [0] bd24) :: kt24_0
noncomputable def opt24_0 : Array Oper := opsOf (pick [0] bd24)
noncomputable def kt24_1 : List Item := .code (pick [1, 1] bd24) :: []
noncomputable def pt24_1 : List Item := .code (pick [1, 0] bd24) :: kt24_1
noncomputable def opt24_1 : Array Oper := opsOf (pick [1, 0] bd24)
noncomputable def kt24_2 : List Item := .code (pick [1, 1, 1] bd24) :: []
noncomputable def kt24_3 : List Item := .code (pick [1, 1, 0, 1] bd24) :: kt24_2
noncomputable def pt24_2 : List Item := .code (pick [1, 1, 0, 0] bd24) :: kt24_3
noncomputable def opt24_2 : Array Oper := opsOf (pick [1, 1, 0, 0] bd24)
noncomputable def pt24_3 : List Item := .code (pick [1, 1, 0, 1] bd24) :: kt24_2
noncomputable def kt24_4 : List Item := .code (pick [1, 1, 0, 1, 0, 1] bd24) :: kt24_2
noncomputable def pt24_4 : List Item := .code (pick [1, 1, 0, 1, 0, 0] bd24) :: kt24_4
noncomputable def opt24_4 : Array Oper := opsOf (pick [1, 1, 0, 1, 0, 0] bd24)
noncomputable def kt24_5 : List Item := .code (pick [1, 1, 1, 1] bd24) :: []
noncomputable def pt24_5 : List Item := .code (pick [1, 1, 1, 0] bd24) :: kt24_5
noncomputable def opt24_5 : Array Oper := opsOf (pick [1, 1, 1, 0] bd24)
noncomputable def kt24_6 : List Item := .code (pick [1, 1, 1, 1, 1] bd24) :: []
noncomputable def pt24_6 : List Item := .code (pick [1, 1, 1, 1, 0] bd24) :: kt24_6
noncomputable def opt24_6 : Array Oper := opsOf (pick [1, 1, 1, 1, 0] bd24)
noncomputable def kt24_7 : List Item := .code (pick [1, 1, 1, 1, 1, 1] bd24) :: []
noncomputable def pt24_7 : List Item := .code (pick [1, 1, 1, 1, 1, 0] bd24) :: kt24_7
noncomputable def opt24_7 : Array Oper := opsOf (pick [1, 1, 1, 1, 1, 0] bd24)
noncomputable def kt24_8 : List Item := .code (pick [1, 1, 1, 1, 1, 1, 1] bd24) :: []
noncomputable def pt24_8 : List Item := .code (pick [1, 1, 1, 1, 1, 1, 0] bd24) :: kt24_8
noncomputable def opt24_8 : Array Oper := opsOf (pick [1, 1, 1, 1, 1, 1, 0] bd24)
noncomputable def pt24_9 : List Item := .code (pick [1, 1, 1, 1, 1, 1, 1] bd24) :: []
theorem deleteA (S : Option Addr) (n cap : Nat) (l : List Alarm) (hl : l.length = n) (hn : n ≤ 1000) (k : Nat) (hk : k < n) : Ctr Try.prog 24 #[.slice S n cap, .int .i64 (k : Int), .int .i64 ((k + 1 : Nat) : Int)] [Grow S cap 30 4 n (l.flatMap encA)] (fun v' => star (fact (v' = .slice S (n - 1) cap) :: [Grow S cap 30 4 (n - 1) ((l.eraseIdx k).flatMap encA)])) false := by
 refine spec_of_at (fn := Try.f24) (c := bd24) (args := [.slice S n cap, .int .i64 (k : Int), .int .i64 ((k + 1 : Nat) : Int)]) (n := 33) (e := [(0, .slice S n cap), (1, .int .i64 (k : Int)), (2, .int .i64 ((k + 1 : Nat) : Int))]) (k := pt24_0) Try.func24 (by kernel_rfl) (by kernel_rfl) (by kernel_rfl) (by kernel_rfl) 300 (by kernel_rfl) ?_
 refine At.learn (fun F w ho => Grow.cases (j := 0) ho rfl) (fun hS => ?_)
 rcases hS with ⟨rfl, rfl, rfl⟩ | ⟨b, rfl⟩
 ·omega
 ·refine At.region (ops := opt24_0) (m := 1) (k' := kt24_0) (by kernel_rfl) 300 (k'' := pt24_1) (by kernel_rfl) ?_
  refine SOps.pures 1 (i' := 1) (m' := 0) (e' := [(6, .slice none 0 0), (0, .slice (some ⟨b, 0, none⟩) n cap), (1, .int .i64 (k : Int)), (2, .int .i64 ((k + 1 : Nat) : Int))]) (by intro u; kernel_rfl) ?_
  refine SOps.nil (.inl rfl) ?_
  refine At.pick [0, 1, 2] (e' := [(0, .slice (some ⟨b, 0, none⟩) n cap), (1, .int .i64 (k : Int)), (2, .int .i64 ((k + 1 : Nat) : Int))]) (by kernel_rfl) ?_
  refine At.region (ops := opt24_1) (m := 6) (k' := kt24_1) (by kernel_rfl) 300 (k'' := pt24_2) (by kernel_rfl) ?_
  refine SOps.pures 5 (i' := 5) (m' := 1) (e' := [(12, .int .i64 (n : Int)), (11, .slice (some ⟨b, 0, none⟩) n cap), (10, .int .i64 ((k + 1 : Nat) : Int)), (9, .int .i64 (k : Int)), (8, .slice (some ⟨b, 0, none⟩) n cap), (0, .slice (some ⟨b, 0, none⟩) n cap), (1, .int .i64 (k : Int)), (2, .int .i64 ((k + 1 : Nat) : Int))]) (by intro u; kernel_rfl) ?_
  refine SOps.learn (fun F w ho => Grow.some (j := 0) ho rfl) (fun gx1 => ?_)
  obtain ⟨gx1a, gx1b, gx1c, gx1d⟩ := gx1
  refine SOps.v (Val.pv 13 (vN (Instr.sliceAt 25 (.slice (some ⟨b, 0, none⟩) n cap) (some (.int .i64 (k : Int))) (some (.int .i64 ((k + 1 : Nat) : Int))) (some (.int .i64 (n : Int))))) (.slice (subS (some ⟨b, 0, none⟩) k n 4) ((k + 1) - k) (n - k)) (by intro u; kernel_rfl) (pv_slice3 (el := 30) (sz := 4) (by kernel_rfl) (by kernel_rfl) (by omega) (by omega) (by omega) (by omega) (by omega) (by omega) (by omega) (by omega) (by omega))) ?_
  refine SOps.nil (.inl rfl) ?_
  refine At.pick [0, 1, 2] (e' := [(0, .slice (some ⟨b, 0, none⟩) n cap), (1, .int .i64 (k : Int)), (2, .int .i64 ((k + 1 : Nat) : Int))]) (by kernel_rfl) ?_
  refine At.region (ops := opt24_2) (m := 3) (k' := kt24_3) (by kernel_rfl) 300 (k'' := pt24_3) (by kernel_rfl) ?_
  refine SOps.pures 3 (i' := 3) (m' := 0) (e' := [(16, .bool ((k : Int) == ((k + 1 : Nat) : Int))), (15, .int .i64 ((k + 1 : Nat) : Int)), (14, .int .i64 (k : Int)), (0, .slice (some ⟨b, 0, none⟩) n cap), (1, .int .i64 (k : Int)), (2, .int .i64 ((k + 1 : Nat) : Int))]) (by intro u; kernel_rfl) ?_
  refine SOps.nil (.inl rfl) ?_
  refine At.pick [0, 1, 2, 16] (e' := [(0, .slice (some ⟨b, 0, none⟩) n cap), (1, .int .i64 (k : Int)), (2, .int .i64 ((k + 1 : Nat) : Int)), (16, .bool ((k : Int) == ((k + 1 : Nat) : Int)))]) (by kernel_rfl) ?_
  refine At.split (fun zq => [(0, .slice (some ⟨b, 0, none⟩) n cap), (1, .int .i64 (k : Int)), (2, .int .i64 ((k + 1 : Nat) : Int)), (16, .bool zq)]) (((k : Int) == ((k + 1 : Nat) : Int))) (fun hx2 => ?_) (fun hx2 => ?_)
  ·have hx2 : (k : Int) = ((k + 1 : Nat) : Int) := by simpa using hx2
   exact absurd hx2 (by omega)
  ·have hx2 : (k : Int) ≠ ((k + 1 : Nat) : Int) := by simpa using hx2
   refine At.cond 300 false (c := .tmp 16) (k1 := pt24_4) (k2 := pt24_5) (by kernel_rfl) (by intro u; kernel_rfl) (fun h => by cases h) (fun _ => ?_)
   refine At.pick [0, 1, 2] (e' := [(0, .slice (some ⟨b, 0, none⟩) n cap), (1, .int .i64 (k : Int)), (2, .int .i64 ((k + 1 : Nat) : Int))]) (by kernel_rfl) ?_
   refine At.region (ops := opt24_5) (m := 3) (k' := kt24_5) (by kernel_rfl) 300 (k'' := pt24_6) (by kernel_rfl) ?_
   refine SOps.pures 3 (i' := 3) (m' := 0) (e' := [(7, .int .i64 (n : Int)), (19, .int .i64 (n : Int)), (18, .slice (some ⟨b, 0, none⟩) n cap), (0, .slice (some ⟨b, 0, none⟩) n cap), (1, .int .i64 (k : Int)), (2, .int .i64 ((k + 1 : Nat) : Int))]) (by intro u; kernel_rfl) ?_
   refine SOps.nil (.inl rfl) ?_
   refine At.pick [0, 1, 2, 7] (e' := [(0, .slice (some ⟨b, 0, none⟩) n cap), (1, .int .i64 (k : Int)), (2, .int .i64 ((k + 1 : Nat) : Int)), (7, .int .i64 (n : Int))]) (by kernel_rfl) ?_
   refine At.game [0] 6 (L := #[false, false, false, false, false, false, false, false]) (ops := opt24_6) (m := 8) (k' := kt24_6) (by kernel_rfl) 300 (k'' := pt24_7) (by kernel_rfl) (by kernel_rfl) rfl (H := [Grow (some ⟨b, 0, none⟩) cap 30 4 n (l.flatMap encA)]) (E := []) rfl ?_
   refine GOps.pures [0, 1, 3, 4] (L' := #[true, true, false, true, true, false, false, false]) (m' := 4) (e' := [(24, .int .i64 ((k + 1 : Nat) : Int)), (23, .slice (some ⟨b, 0, none⟩) n cap), (21, .int .i64 (k : Int)), (20, .slice (some ⟨b, 0, none⟩) n cap), (0, .slice (some ⟨b, 0, none⟩) n cap), (1, .int .i64 (k : Int)), (2, .int .i64 ((k + 1 : Nat) : Int)), (7, .int .i64 (n : Int))]) (by kernel_rfl) (by intro u; kernel_rfl) ?_
   refine GOps.v 2 (Val.pv 22 (vN (Instr.sliceAt 25 (.slice (some ⟨b, 0, none⟩) n cap) none (some (.int .i64 (k : Int))) none)) (.slice (some ⟨b, 0, none⟩) k cap) (by intro u; kernel_rfl) (pv_sliceHiO (el := 30) (sz := 4) (by kernel_rfl) (by kernel_rfl) (by omega) (by omega) (by omega))) (by kernel_rfl) (by kernel_rfl) (by kernel_rfl) (by kernel_rfl) (L' := #[true, true, true, true, true, false, false, false]) rfl ?_
   refine GOps.v 5 (Val.pv 25 (vN (Instr.sliceAt 25 (.slice (some ⟨b, 0, none⟩) n cap) (some (.int .i64 ((k + 1 : Nat) : Int))) none none)) (.slice (subS (some ⟨b, 0, none⟩) (k + 1) cap 4) (n - (k + 1)) (cap - (k + 1))) (by intro u; kernel_rfl) (pv_sliceLoO (el := 30) (sz := 4) (by kernel_rfl) (by kernel_rfl) (by omega) (by omega) (by omega))) (by kernel_rfl) (by kernel_rfl) (by kernel_rfl) (by kernel_rfl) (L' := #[true, true, true, true, true, true, false, false]) rfl ?_
   refine GOps.one 6 (by kernel_rfl) (GStep.d (L' := #[true, true, true, true, true, true, true, false]) rfl rfl (Op.appR 0 0 26 (ty := 25) (k := k) (q := n - (k + 1)) (cap := cap) (c2 := cap - (k + 1)) el_25 ((l.drop (k + 1)).flatMap encA) (A' := [Grow (some ⟨b, 0, none⟩) cap 30 4 n ((l.take k ++ (l.drop (k + 1) ++ l.drop (k + (l.drop (k + 1)).length))).flatMap encA)]) (r := n - 1) (by omega) rfl rfl (by intro u; kernel_rfl) (by omega) (by rw [flat_len encA 4 (fun _ => rfl), List.length_drop, hl]) (flat_one encA (fun _ => rfl) _) (SrcOf.suf encA 4 (fun _ => rfl) hl (k + 1) (by omega)) (WrOf.grow k (fun _ => rfl) (by rw [flat_len encA 4 (fun _ => rfl), flat_len encA 4 (fun _ => rfl), List.length_drop]; omega) (flat_lay encA 4 (fun _ => rfl) l (l.drop (k + 1)) k (by rw [List.length_drop]; omega))) rfl ?_))
   refine GOps.pures [7] (L' := #[true, true, true, true, true, true, true, true]) (m' := 0) (e' := [(0, .slice (some ⟨b, 0, none⟩) (n - 1) cap), (26, .slice (some ⟨b, 0, none⟩) (n - 1) cap), (25, .slice (subS (some ⟨b, 0, none⟩) (k + 1) cap 4) (n - (k + 1)) (cap - (k + 1))), (22, .slice (some ⟨b, 0, none⟩) k cap), (24, .int .i64 ((k + 1 : Nat) : Int)), (23, .slice (some ⟨b, 0, none⟩) n cap), (21, .int .i64 (k : Int)), (20, .slice (some ⟨b, 0, none⟩) n cap), (0, .slice (some ⟨b, 0, none⟩) n cap), (1, .int .i64 (k : Int)), (2, .int .i64 ((k + 1 : Nat) : Int)), (7, .int .i64 (n : Int))]) (by kernel_rfl) (by intro u; kernel_rfl) ?_
   refine GOps.nil (by kernel_rfl) ?_
   refine At.pick [0, 7] (e' := [(0, .slice (some ⟨b, 0, none⟩) (n - 1) cap), (7, .int .i64 (n : Int))]) (by kernel_rfl) ?_
   refine At.region (ops := opt24_7) (m := 6) (k' := kt24_7) (by kernel_rfl) 300 (k'' := pt24_8) (by kernel_rfl) ?_
   refine SOps.pures 4 (i' := 4) (m' := 2) (e' := [(30, .int .i64 (n : Int)), (29, .int .i64 (((n - 1) : Nat) : Int)), (28, .slice (some ⟨b, 0, none⟩) (n - 1) cap), (27, .slice (some ⟨b, 0, none⟩) (n - 1) cap), (0, .slice (some ⟨b, 0, none⟩) (n - 1) cap), (7, .int .i64 (n : Int))]) (by intro u; kernel_rfl) ?_
   refine SOps.v (Val.pv 31 (vN (Instr.sliceAt 25 (.slice (some ⟨b, 0, none⟩) (n - 1) cap) (some (.int .i64 (((n - 1) : Nat) : Int))) (some (.int .i64 (n : Int))) none)) (.slice (subS (some ⟨b, 0, none⟩) (n - 1) cap 4) (n - (n - 1)) (cap - (n - 1))) (by intro u; kernel_rfl) (pv_sliceLH (el := 30) (sz := 4) (by kernel_rfl) (by kernel_rfl) (by omega) (by omega) (by omega) (by omega) (by omega) (by omega))) ?_
   refine SOps.o (Op.clearN 0 (ty := 0) (q := n - (n - 1)) (c := cap - (n - 1)) el_25 (A' := [Grow (some ⟨b, 0, none⟩) cap 30 4 n (upd ((l.take k ++ (l.drop (k + 1) ++ l.drop (k + (l.drop (k + 1)).length))).flatMap encA) ((n - 1) * 4) (List.replicate (n - (n - 1)) [.int .i64 0, .int .i64 0, .int .i64 0, .bool false]).flatten)]) rfl (by intro u; kernel_rfl) rfl (WrOf.sub (n - 1) (by rw [flat_len encA 4 (fun _ => rfl)]; simp; omega) rfl) rfl ?_)
   refine SOps.nil (.inl rfl) ?_
   refine At.pick [0] (e' := [(0, .slice (some ⟨b, 0, none⟩) (n - 1) cap)]) (by kernel_rfl) ?_
   refine At.region (ops := opt24_8) (m := 2) (k' := kt24_8) (by kernel_rfl) 300 (k'' := pt24_9) (by kernel_rfl) ?_
   refine SOps.pures 2 (i' := 2) (m' := 0) (e' := [(6, .slice (some ⟨b, 0, none⟩) (n - 1) cap), (32, .slice (some ⟨b, 0, none⟩) (n - 1) cap), (0, .slice (some ⟨b, 0, none⟩) (n - 1) cap)]) (by intro u; kernel_rfl) ?_
   refine SOps.nil (.inl rfl) ?_
   refine At.pick [6] (e' := [(6, .slice (some ⟨b, 0, none⟩) (n - 1) cap)]) (by kernel_rfl) ?_
   refine At.ret1 (fn := Try.f24) (v := .slice (some ⟨b, 0, none⟩) (n - 1) cap) (t := 6) (by kernel_rfl) Try.func24 (by kernel_rfl) (by kernel_rfl) (fun F w ho => ?_)
   have ho' := Grow.cut_at (j := 0) (n - 1) (by omega) (del_cut encA 4 (fun _ => rfl) l hl hk (by rw [show n - (n - 1) = 1 by omega]; rfl)) rfl ho
   exact shutS [0] rfl ho'
noncomputable def bd23 : Code := (Try.f23.body).getD .skip
noncomputable def kt23_0 : List Item := .code (pick [1] bd23) :: []
noncomputable def pt23_0 : List Item := .code (pick [0] bd23) :: kt23_0
noncomputable def opt23_0 : Array Oper := opsOf (pick [0] bd23)
noncomputable def kt23_1 : List Item := .code (pick [1, 1] bd23) :: []
noncomputable def pt23_1 : List Item := .code (pick [1, 0] bd23) :: kt23_1
noncomputable def opt23_1 : Array Oper := opsOf (pick [1, 0] bd23)
noncomputable def kt23_2 : List Item := .code (pick [1, 1, 1] bd23) :: []
noncomputable def pt23_2 : List Item := .code (pick [1, 1, 0] bd23) :: kt23_2
noncomputable def opt23_2 : Array Oper := opsOf (pick [1, 1, 0] bd23)
noncomputable def kt23_3 : List Item := .code (pick [1, 1, 1, 1] bd23) :: []
noncomputable def kt23_4 : List Item := .code (pick [1, 1, 1, 0, 1] bd23) :: kt23_3
noncomputable def pt23_3 : List Item := .code (pick [1, 1, 1, 0, 0] bd23) :: kt23_4
noncomputable def opt23_3 : Array Oper := opsOf (pick [1, 1, 1, 0, 0] bd23)
noncomputable def pt23_4 : List Item := .code (pick [1, 1, 1, 0, 1] bd23) :: kt23_3
noncomputable def kt23_5 : List Item := .code (pick [1, 1, 1, 0, 1, 0, 1] bd23) :: kt23_3
noncomputable def pt23_5 : List Item := .code (pick [1, 1, 1, 0, 1, 0, 0] bd23) :: kt23_5
noncomputable def opt23_5 : Array Oper := opsOf (pick [1, 1, 1, 0, 1, 0, 0] bd23)
noncomputable def kt23_6 : List Item := .code (pick [1, 1, 1, 1, 1] bd23) :: []
noncomputable def pt23_6 : List Item := .code (pick [1, 1, 1, 1, 0] bd23) :: kt23_6
noncomputable def opt23_6 : Array Oper := opsOf (pick [1, 1, 1, 1, 0] bd23)
noncomputable def kt23_7 : List Item := .code (pick [1, 1, 1, 1, 1, 1] bd23) :: []
noncomputable def kt23_8 : List Item := .code (pick [1, 1, 1, 1, 1, 0, 1] bd23) :: kt23_7
noncomputable def pt23_7 : List Item := .code (pick [1, 1, 1, 1, 1, 0, 0] bd23) :: kt23_8
noncomputable def opt23_7 : Array Oper := opsOf (pick [1, 1, 1, 1, 1, 0, 0] bd23)
noncomputable def pt23_8 : List Item := .code (pick [1, 1, 1, 1, 1, 0, 1] bd23) :: kt23_7
noncomputable def kt23_9 : List Item := .code (pick [1, 1, 1, 1, 1, 0, 1, 0, 1] bd23) :: kt23_7
noncomputable def pt23_9 : List Item := .code (pick [1, 1, 1, 1, 1, 0, 1, 0, 0] bd23) :: kt23_9
noncomputable def opt23_9 : Array Oper := opsOf (pick [1, 1, 1, 1, 1, 0, 1, 0, 0] bd23)
noncomputable def kt23_10 : List Item := .code (pick [1, 1, 1, 1, 1, 1, 1] bd23) :: []
noncomputable def kt23_11 : List Item := .code (pick [1, 1, 1, 1, 1, 1, 0, 1] bd23) :: kt23_10
noncomputable def pt23_10 : List Item := .code (pick [1, 1, 1, 1, 1, 1, 0, 0] bd23) :: kt23_11
noncomputable def opt23_10 : Array Oper := opsOf (pick [1, 1, 1, 1, 1, 1, 0, 0] bd23)
noncomputable def pt23_11 : List Item := .code (pick [1, 1, 1, 1, 1, 0, 1, 0, 1] bd23) :: kt23_7
noncomputable def pt23_12 : List Item := .code (pick [1, 1, 1, 1, 1, 1, 0, 1] bd23) :: kt23_10
noncomputable def kt23_12 : List Item := .code (pick [1, 1, 1, 1, 1, 1, 0, 1, 0, 1] bd23) :: kt23_10
noncomputable def pt23_13 : List Item := .code (pick [1, 1, 1, 1, 1, 1, 0, 1, 0, 0] bd23) :: kt23_12
noncomputable def opt23_13 : Array Oper := opsOf (pick [1, 1, 1, 1, 1, 1, 0, 1, 0, 0] bd23)
noncomputable def kt23_13 : List Item := .code (pick [1, 1, 1, 1, 1, 1, 1, 1] bd23) :: []
noncomputable def pt23_14 : List Item := .code (pick [1, 1, 1, 1, 1, 1, 1, 0] bd23) :: kt23_13
noncomputable def opt23_14 : Array Oper := opsOf (pick [1, 1, 1, 1, 1, 1, 1, 0] bd23)
noncomputable def kt23_14 : List Item := .code (pick [1, 1, 1, 1, 1, 1, 0, 1, 0, 1, 1] bd23) :: kt23_10
noncomputable def pt23_15 : List Item := .code (pick [1, 1, 1, 1, 1, 1, 0, 1, 0, 1, 0] bd23) :: kt23_14
noncomputable def opt23_15 : Array Oper := opsOf (pick [1, 1, 1, 1, 1, 1, 0, 1, 0, 1, 0] bd23)
noncomputable def kt23_15 : List Item := .code (pick [1, 1, 1, 1, 1, 1, 0, 1, 0, 1, 1, 1] bd23) :: kt23_10
noncomputable def pt23_16 : List Item := .code (pick [1, 1, 1, 1, 1, 1, 0, 1, 0, 1, 1, 0] bd23) :: kt23_15
noncomputable def opt23_16 : Array Oper := opsOf (pick [1, 1, 1, 1, 1, 1, 0, 1, 0, 1, 1, 0] bd23)
noncomputable def kt23_16 : List Item := .code (pick [1, 1, 1, 1, 1, 1, 0, 1, 0, 1, 1, 1, 1] bd23) :: kt23_10
noncomputable def pt23_17 : List Item := .code (pick [1, 1, 1, 1, 1, 1, 0, 1, 0, 1, 1, 1, 0] bd23) :: kt23_16
noncomputable def opt23_17 : Array Oper := opsOf (pick [1, 1, 1, 1, 1, 1, 0, 1, 0, 1, 1, 1, 0] bd23)
noncomputable def pt23_18 : List Item := .code (pick [1, 1, 1, 1, 1, 1, 0, 1, 0, 1, 1, 1, 1] bd23) :: kt23_10
noncomputable def kt23_17 : List Item := .code (pick [1, 1, 1, 1, 1, 1, 1, 1, 1] bd23) :: []
noncomputable def kt23_18 : List Item := .code (pick [1, 1, 1, 1, 1, 1, 1, 1, 0, 1] bd23) :: kt23_17
noncomputable def pt23_19 : List Item := .code (pick [1, 1, 1, 1, 1, 1, 1, 1, 0, 0] bd23) :: kt23_18
noncomputable def opt23_19 : Array Oper := opsOf (pick [1, 1, 1, 1, 1, 1, 1, 1, 0, 0] bd23)
noncomputable def pt23_20 : List Item := .code (pick [1, 1, 1, 1, 1, 1, 1, 1, 0, 1] bd23) :: kt23_17
noncomputable def kt23_19 : List Item := .code (pick [1, 1, 1, 1, 1, 1, 1, 1, 0, 1, 0, 1] bd23) :: kt23_17
noncomputable def pt23_21 : List Item := .code (pick [1, 1, 1, 1, 1, 1, 1, 1, 0, 1, 0, 0] bd23) :: kt23_19
noncomputable def opt23_21 : Array Oper := opsOf (pick [1, 1, 1, 1, 1, 1, 1, 1, 0, 1, 0, 0] bd23)
noncomputable def kt23_20 : List Item := .code (pick [1, 1, 1, 1, 1, 1, 1, 1, 1, 1] bd23) :: []
noncomputable def pt23_22 : List Item := .code (pick [1, 1, 1, 1, 1, 1, 1, 1, 1, 0] bd23) :: kt23_20
noncomputable def opt23_22 : Array Oper := opsOf (pick [1, 1, 1, 1, 1, 1, 1, 1, 1, 0] bd23)
noncomputable def kt23_21 : List Item := .code (pick [1, 1, 1, 1, 1, 1, 1, 1, 0, 1, 0, 1, 1] bd23) :: kt23_17
noncomputable def pt23_23 : List Item := .code (pick [1, 1, 1, 1, 1, 1, 1, 1, 0, 1, 0, 1, 0] bd23) :: kt23_21
noncomputable def opt23_23 : Array Oper := opsOf (pick [1, 1, 1, 1, 1, 1, 1, 1, 0, 1, 0, 1, 0] bd23)
noncomputable def kt23_22 : List Item := .code (pick [1, 1, 1, 1, 1, 1, 1, 1, 0, 1, 0, 1, 1, 1] bd23) :: kt23_17
noncomputable def pt23_24 : List Item := .code (pick [1, 1, 1, 1, 1, 1, 1, 1, 0, 1, 0, 1, 1, 0] bd23) :: kt23_22
noncomputable def opt23_24 : Array Oper := opsOf (pick [1, 1, 1, 1, 1, 1, 1, 1, 0, 1, 0, 1, 1, 0] bd23)
noncomputable def pt23_25 : List Item := .code (pick [1, 1, 1, 1, 1, 1, 1, 1, 0, 1, 0, 1, 1, 1] bd23) :: kt23_17
theorem insertA (S : Option Addr) (n cap : Nat) (l : List Alarm) (hl : l.length = n) (hn : n ≤ 1000) (i vb : Nat) (a : Alarm) (hi : i ≤ n) : Ctr Try.prog 23 #[.slice S n cap, .int .i64 (i : Int), .slice (some ⟨vb, 0, none⟩) 1 1] [Grow S cap 30 4 n (l.flatMap encA), Cells vb 30 [.int .i64 a.id, .int .i64 a.minute, .int .i64 a.days, .bool a.off]] (fun v' => ex fun x : Option Addr × Nat => fact (v' = .slice x.1 (n + 1) x.2) :: fact True :: [Grow x.1 x.2 30 4 (n + 1) ((insA l i a).flatMap encA)]) false := by
 refine spec_of_at (fn := Try.f23) (c := bd23) (args := [.slice S n cap, .int .i64 (i : Int), .slice (some ⟨vb, 0, none⟩) 1 1]) (n := 95) (e := [(0, .slice S n cap), (1, .int .i64 (i : Int)), (2, .slice (some ⟨vb, 0, none⟩) 1 1)]) (k := pt23_0) Try.func23 (by kernel_rfl) (by kernel_rfl) (by kernel_rfl) (by kernel_rfl) 300 (by kernel_rfl) ?_
 refine At.learn (fun F w ho => Grow.cases (j := 0) ho rfl) (fun hS => ?_)
 rcases hS with ⟨rfl, rfl, rfl⟩ | ⟨b, rfl⟩
 ·refine At.region (ops := opt23_0) (m := 1) (k' := kt23_0) (by kernel_rfl) 300 (k'' := pt23_1) (by kernel_rfl) ?_
  refine SOps.pures 1 (i' := 1) (m' := 0) (e' := [(6, .slice none 0 0), (0, .slice none 0 0), (1, .int .i64 (i : Int)), (2, .slice (some ⟨vb, 0, none⟩) 1 1)]) (by intro u; kernel_rfl) ?_
  refine SOps.nil (.inl rfl) ?_
  refine At.pick [0, 1, 2] (e' := [(0, .slice none 0 0), (1, .int .i64 (i : Int)), (2, .slice (some ⟨vb, 0, none⟩) 1 1)]) (by kernel_rfl) ?_
  refine At.region (ops := opt23_1) (m := 3) (k' := kt23_1) (by kernel_rfl) 300 (k'' := pt23_2) (by kernel_rfl) ?_
  refine SOps.pures 2 (i' := 2) (m' := 1) (e' := [(11, .int .i64 (i : Int)), (10, .slice none 0 0), (0, .slice none 0 0), (1, .int .i64 (i : Int)), (2, .slice (some ⟨vb, 0, none⟩) 1 1)]) (by intro u; kernel_rfl) ?_
  refine SOps.learn (fun F w ho => Grow.some (j := 0) ho rfl) (fun gx1 => ?_)
  obtain ⟨gx1a, gx1b, gx1c, gx1d⟩ := gx1
  refine SOps.v (Val.pv 12 (vN (Instr.sliceAt 25 (.slice none 0 0) (some (.int .i64 (i : Int))) none none)) (.slice (subS none i 0 4) (0 - i) (0 - i)) (by intro u; kernel_rfl) (pv_sliceLoO (el := 30) (sz := 4) (by kernel_rfl) (by kernel_rfl) (by omega) (by omega) (by omega))) ?_
  refine SOps.nil (.inl rfl) ?_
  refine At.pick [0, 1, 2] (e' := [(0, .slice none 0 0), (1, .int .i64 (i : Int)), (2, .slice (some ⟨vb, 0, none⟩) 1 1)]) (by kernel_rfl) ?_
  refine At.region (ops := opt23_2) (m := 3) (k' := kt23_2) (by kernel_rfl) 300 (k'' := pt23_3) (by kernel_rfl) ?_
  refine SOps.pures 3 (i' := 3) (m' := 0) (e' := [(7, .int .i64 1), (14, .int .i64 1), (13, .slice (some ⟨vb, 0, none⟩) 1 1), (0, .slice none 0 0), (1, .int .i64 (i : Int)), (2, .slice (some ⟨vb, 0, none⟩) 1 1)]) (by intro u; kernel_rfl) ?_
  refine SOps.nil (.inl rfl) ?_
  refine At.pick [0, 1, 2, 7] (e' := [(0, .slice none 0 0), (1, .int .i64 (i : Int)), (2, .slice (some ⟨vb, 0, none⟩) 1 1), (7, .int .i64 1)]) (by kernel_rfl) ?_
  refine At.region (ops := opt23_3) (m := 2) (k' := kt23_4) (by kernel_rfl) 300 (k'' := pt23_4) (by kernel_rfl) ?_
  refine SOps.pures 2 (i' := 2) (m' := 0) (e' := [(16, .bool false), (15, .int .i64 1), (0, .slice none 0 0), (1, .int .i64 (i : Int)), (2, .slice (some ⟨vb, 0, none⟩) 1 1), (7, .int .i64 1)]) (by intro u; kernel_rfl) ?_
  refine SOps.nil (.inl rfl) ?_
  refine At.pick [0, 1, 2, 7, 16] (e' := [(0, .slice none 0 0), (1, .int .i64 (i : Int)), (2, .slice (some ⟨vb, 0, none⟩) 1 1), (7, .int .i64 1), (16, .bool false)]) (by kernel_rfl) ?_
  refine At.cond 300 false (c := .tmp 16) (k1 := pt23_5) (k2 := pt23_6) (by kernel_rfl) (by intro u; kernel_rfl) (fun h => by cases h) (fun _ => ?_)
  refine At.pick [0, 1, 2, 7] (e' := [(0, .slice none 0 0), (1, .int .i64 (i : Int)), (2, .slice (some ⟨vb, 0, none⟩) 1 1), (7, .int .i64 1)]) (by kernel_rfl) ?_
  refine At.region (ops := opt23_6) (m := 3) (k' := kt23_6) (by kernel_rfl) 300 (k'' := pt23_7) (by kernel_rfl) ?_
  refine SOps.pures 3 (i' := 3) (m' := 0) (e' := [(8, .int .i64 0), (19, .int .i64 0), (18, .slice none 0 0), (0, .slice none 0 0), (1, .int .i64 (i : Int)), (2, .slice (some ⟨vb, 0, none⟩) 1 1), (7, .int .i64 1)]) (by intro u; kernel_rfl) ?_
  refine SOps.nil (.inl rfl) ?_
  refine At.pick [0, 1, 2, 7, 8] (e' := [(0, .slice none 0 0), (1, .int .i64 (i : Int)), (2, .slice (some ⟨vb, 0, none⟩) 1 1), (7, .int .i64 1), (8, .int .i64 0)]) (by kernel_rfl) ?_
  refine At.region (ops := opt23_7) (m := 3) (k' := kt23_8) (by kernel_rfl) 300 (k'' := pt23_8) (by kernel_rfl) ?_
  refine SOps.pures 3 (i' := 3) (m' := 0) (e' := [(22, .bool ((i : Int) == 0)), (21, .int .i64 0), (20, .int .i64 (i : Int)), (0, .slice none 0 0), (1, .int .i64 (i : Int)), (2, .slice (some ⟨vb, 0, none⟩) 1 1), (7, .int .i64 1), (8, .int .i64 0)]) (by intro u; kernel_rfl) ?_
  refine SOps.nil (.inl rfl) ?_
  refine At.pick [0, 1, 2, 7, 8, 22] (e' := [(0, .slice none 0 0), (1, .int .i64 (i : Int)), (2, .slice (some ⟨vb, 0, none⟩) 1 1), (7, .int .i64 1), (8, .int .i64 0), (22, .bool ((i : Int) == 0))]) (by kernel_rfl) ?_
  refine At.split (fun zq => [(0, .slice none 0 0), (1, .int .i64 (i : Int)), (2, .slice (some ⟨vb, 0, none⟩) 1 1), (7, .int .i64 1), (8, .int .i64 0), (22, .bool zq)]) (((i : Int) == 0)) (fun hx2 => ?_) (fun hx2 => ?_)
  ·have hx2 : (i : Int) = 0 := by simpa using hx2
   refine At.cond 300 true (c := .tmp 22) (k1 := pt23_9) (k2 := pt23_10) (by kernel_rfl) (by intro u; kernel_rfl) (fun _ => ?_) (fun h => by cases h)
   refine At.pick [0, 2] (e' := [(0, .slice none 0 0), (2, .slice (some ⟨vb, 0, none⟩) 1 1)]) (by kernel_rfl) ?_
   refine At.region (ops := opt23_9) (m := 4) (k' := kt23_9) (by kernel_rfl) 300 (k'' := pt23_11) (by kernel_rfl) ?_
   refine SOps.pures 2 (i' := 2) (m' := 2) (e' := [(24, .slice (some ⟨vb, 0, none⟩) 1 1), (23, .slice none 0 0), (0, .slice none 0 0), (2, .slice (some ⟨vb, 0, none⟩) 1 1)]) (by intro u; kernel_rfl) ?_
   refine SOps.o (Op.appS 0 1 25 (sz := 4) (bytes := 32) (ty := 25) el_25 (([a]).flatMap encA) ((l ++ [a]).flatMap encA) (n := 0) (q := 1) (c := 1) (r := 1) (by omega) rfl rfl (by intro u; kernel_rfl) (by rw [flat_len encA 4 (fun _ => rfl)] <;> first | omega | (simp only [List.length_cons, List.length_nil]; done) | (simp only [List.length_append, List.length_take, List.length_drop, List.length_cons, List.length_nil, List.length_set]; omega)) SrcOf.cells (flat_one encA (fun _ => rfl) _) (by unfold maxLen; omega) (by omega) (List.flatMap_append).symm ?_)
   intro Sx3 cx4
   refine SOps.pures 1 (i' := 4) (m' := 0) (e' := [(6, .slice Sx3 1 cx4), (25, .slice Sx3 1 cx4), (24, .slice (some ⟨vb, 0, none⟩) 1 1), (23, .slice none 0 0), (0, .slice none 0 0), (2, .slice (some ⟨vb, 0, none⟩) 1 1)]) (by intro u; kernel_rfl) ?_
   refine SOps.nil (.inl rfl) ?_
   refine At.pick [6] (e' := [(6, .slice Sx3 1 cx4)]) (by kernel_rfl) ?_
   refine At.ret1 (fn := Try.f23) (v := .slice Sx3 1 cx4) (t := 6) (by kernel_rfl) Try.func23 (by kernel_rfl) (by kernel_rfl) (fun F w ho => ?_)
   rw [insA_end l a (by omega : l.length = i)] at ho
   exact shutX (p := fun _ => True) (Sx3, cx4) rfl trivial [0] rfl ho
  ·have hx2 : (i : Int) ≠ 0 := by simpa using hx2
   exact absurd hx2 (by omega)
 ·refine At.region (ops := opt23_0) (m := 1) (k' := kt23_0) (by kernel_rfl) 300 (k'' := pt23_1) (by kernel_rfl) ?_
  refine SOps.pures 1 (i' := 1) (m' := 0) (e' := [(6, .slice none 0 0), (0, .slice (some ⟨b, 0, none⟩) n cap), (1, .int .i64 (i : Int)), (2, .slice (some ⟨vb, 0, none⟩) 1 1)]) (by intro u; kernel_rfl) ?_
  refine SOps.nil (.inl rfl) ?_
  refine At.pick [0, 1, 2] (e' := [(0, .slice (some ⟨b, 0, none⟩) n cap), (1, .int .i64 (i : Int)), (2, .slice (some ⟨vb, 0, none⟩) 1 1)]) (by kernel_rfl) ?_
  refine At.region (ops := opt23_1) (m := 3) (k' := kt23_1) (by kernel_rfl) 300 (k'' := pt23_2) (by kernel_rfl) ?_
  refine SOps.pures 2 (i' := 2) (m' := 1) (e' := [(11, .int .i64 (i : Int)), (10, .slice (some ⟨b, 0, none⟩) n cap), (0, .slice (some ⟨b, 0, none⟩) n cap), (1, .int .i64 (i : Int)), (2, .slice (some ⟨vb, 0, none⟩) 1 1)]) (by intro u; kernel_rfl) ?_
  refine SOps.learn (fun F w ho => Grow.some (j := 0) ho rfl) (fun gx1 => ?_)
  obtain ⟨gx1a, gx1b, gx1c, gx1d⟩ := gx1
  refine SOps.v (Val.pv 12 (vN (Instr.sliceAt 25 (.slice (some ⟨b, 0, none⟩) n cap) (some (.int .i64 (i : Int))) none none)) (.slice (subS (some ⟨b, 0, none⟩) i cap 4) (n - i) (cap - i)) (by intro u; kernel_rfl) (pv_sliceLoO (el := 30) (sz := 4) (by kernel_rfl) (by kernel_rfl) (by omega) (by omega) (by omega))) ?_
  refine SOps.nil (.inl rfl) ?_
  refine At.pick [0, 1, 2] (e' := [(0, .slice (some ⟨b, 0, none⟩) n cap), (1, .int .i64 (i : Int)), (2, .slice (some ⟨vb, 0, none⟩) 1 1)]) (by kernel_rfl) ?_
  refine At.region (ops := opt23_2) (m := 3) (k' := kt23_2) (by kernel_rfl) 300 (k'' := pt23_3) (by kernel_rfl) ?_
  refine SOps.pures 3 (i' := 3) (m' := 0) (e' := [(7, .int .i64 1), (14, .int .i64 1), (13, .slice (some ⟨vb, 0, none⟩) 1 1), (0, .slice (some ⟨b, 0, none⟩) n cap), (1, .int .i64 (i : Int)), (2, .slice (some ⟨vb, 0, none⟩) 1 1)]) (by intro u; kernel_rfl) ?_
  refine SOps.nil (.inl rfl) ?_
  refine At.pick [0, 1, 2, 7] (e' := [(0, .slice (some ⟨b, 0, none⟩) n cap), (1, .int .i64 (i : Int)), (2, .slice (some ⟨vb, 0, none⟩) 1 1), (7, .int .i64 1)]) (by kernel_rfl) ?_
  refine At.region (ops := opt23_3) (m := 2) (k' := kt23_4) (by kernel_rfl) 300 (k'' := pt23_4) (by kernel_rfl) ?_
  refine SOps.pures 2 (i' := 2) (m' := 0) (e' := [(16, .bool false), (15, .int .i64 1), (0, .slice (some ⟨b, 0, none⟩) n cap), (1, .int .i64 (i : Int)), (2, .slice (some ⟨vb, 0, none⟩) 1 1), (7, .int .i64 1)]) (by intro u; kernel_rfl) ?_
  refine SOps.nil (.inl rfl) ?_
  refine At.pick [0, 1, 2, 7, 16] (e' := [(0, .slice (some ⟨b, 0, none⟩) n cap), (1, .int .i64 (i : Int)), (2, .slice (some ⟨vb, 0, none⟩) 1 1), (7, .int .i64 1), (16, .bool false)]) (by kernel_rfl) ?_
  refine At.cond 300 false (c := .tmp 16) (k1 := pt23_5) (k2 := pt23_6) (by kernel_rfl) (by intro u; kernel_rfl) (fun h => by cases h) (fun _ => ?_)
  refine At.pick [0, 1, 2, 7] (e' := [(0, .slice (some ⟨b, 0, none⟩) n cap), (1, .int .i64 (i : Int)), (2, .slice (some ⟨vb, 0, none⟩) 1 1), (7, .int .i64 1)]) (by kernel_rfl) ?_
  refine At.region (ops := opt23_6) (m := 3) (k' := kt23_6) (by kernel_rfl) 300 (k'' := pt23_7) (by kernel_rfl) ?_
  refine SOps.pures 3 (i' := 3) (m' := 0) (e' := [(8, .int .i64 (n : Int)), (19, .int .i64 (n : Int)), (18, .slice (some ⟨b, 0, none⟩) n cap), (0, .slice (some ⟨b, 0, none⟩) n cap), (1, .int .i64 (i : Int)), (2, .slice (some ⟨vb, 0, none⟩) 1 1), (7, .int .i64 1)]) (by intro u; kernel_rfl) ?_
  refine SOps.nil (.inl rfl) ?_
  refine At.pick [0, 1, 2, 7, 8] (e' := [(0, .slice (some ⟨b, 0, none⟩) n cap), (1, .int .i64 (i : Int)), (2, .slice (some ⟨vb, 0, none⟩) 1 1), (7, .int .i64 1), (8, .int .i64 (n : Int))]) (by kernel_rfl) ?_
  refine At.region (ops := opt23_7) (m := 3) (k' := kt23_8) (by kernel_rfl) 300 (k'' := pt23_8) (by kernel_rfl) ?_
  refine SOps.pures 3 (i' := 3) (m' := 0) (e' := [(22, .bool ((i : Int) == (n : Int))), (21, .int .i64 (n : Int)), (20, .int .i64 (i : Int)), (0, .slice (some ⟨b, 0, none⟩) n cap), (1, .int .i64 (i : Int)), (2, .slice (some ⟨vb, 0, none⟩) 1 1), (7, .int .i64 1), (8, .int .i64 (n : Int))]) (by intro u; kernel_rfl) ?_
  refine SOps.nil (.inl rfl) ?_
  refine At.pick [0, 1, 2, 7, 8, 22] (e' := [(0, .slice (some ⟨b, 0, none⟩) n cap), (1, .int .i64 (i : Int)), (2, .slice (some ⟨vb, 0, none⟩) 1 1), (7, .int .i64 1), (8, .int .i64 (n : Int)), (22, .bool ((i : Int) == (n : Int)))]) (by kernel_rfl) ?_
  refine At.split (fun zq => [(0, .slice (some ⟨b, 0, none⟩) n cap), (1, .int .i64 (i : Int)), (2, .slice (some ⟨vb, 0, none⟩) 1 1), (7, .int .i64 1), (8, .int .i64 (n : Int)), (22, .bool zq)]) (((i : Int) == (n : Int))) (fun hx2 => ?_) (fun hx2 => ?_)
  ·have hx2 : (i : Int) = (n : Int) := by simpa using hx2
   refine At.cond 300 true (c := .tmp 22) (k1 := pt23_9) (k2 := pt23_10) (by kernel_rfl) (by intro u; kernel_rfl) (fun _ => ?_) (fun h => by cases h)
   refine At.pick [0, 2] (e' := [(0, .slice (some ⟨b, 0, none⟩) n cap), (2, .slice (some ⟨vb, 0, none⟩) 1 1)]) (by kernel_rfl) ?_
   refine At.region (ops := opt23_9) (m := 4) (k' := kt23_9) (by kernel_rfl) 300 (k'' := pt23_11) (by kernel_rfl) ?_
   refine SOps.pures 2 (i' := 2) (m' := 2) (e' := [(24, .slice (some ⟨vb, 0, none⟩) 1 1), (23, .slice (some ⟨b, 0, none⟩) n cap), (0, .slice (some ⟨b, 0, none⟩) n cap), (2, .slice (some ⟨vb, 0, none⟩) 1 1)]) (by intro u; kernel_rfl) ?_
   refine SOps.o (Op.appS 0 1 25 (sz := 4) (bytes := 32) (ty := 25) el_25 (([a]).flatMap encA) ((l ++ [a]).flatMap encA) (n := n) (q := 1) (c := 1) (r := (n + 1)) (by omega) rfl rfl (by intro u; kernel_rfl) (by rw [flat_len encA 4 (fun _ => rfl)] <;> first | omega | (simp only [List.length_cons, List.length_nil]; done) | (simp only [List.length_append, List.length_take, List.length_drop, List.length_cons, List.length_nil, List.length_set]; omega)) SrcOf.cells (flat_one encA (fun _ => rfl) _) (by unfold maxLen; omega) (by omega) (List.flatMap_append).symm ?_)
   intro Sx3 cx4
   refine SOps.pures 1 (i' := 4) (m' := 0) (e' := [(6, .slice Sx3 (n + 1) cx4), (25, .slice Sx3 (n + 1) cx4), (24, .slice (some ⟨vb, 0, none⟩) 1 1), (23, .slice (some ⟨b, 0, none⟩) n cap), (0, .slice (some ⟨b, 0, none⟩) n cap), (2, .slice (some ⟨vb, 0, none⟩) 1 1)]) (by intro u; kernel_rfl) ?_
   refine SOps.nil (.inl rfl) ?_
   refine At.pick [6] (e' := [(6, .slice Sx3 (n + 1) cx4)]) (by kernel_rfl) ?_
   refine At.ret1 (fn := Try.f23) (v := .slice Sx3 (n + 1) cx4) (t := 6) (by kernel_rfl) Try.func23 (by kernel_rfl) (by kernel_rfl) (fun F w ho => ?_)
   rw [insA_end l a (by omega : l.length = i)] at ho
   exact shutX (p := fun _ => True) (Sx3, cx4) rfl trivial [0] rfl ho
  ·have hx2 : (i : Int) ≠ (n : Int) := by simpa using hx2
   refine At.cond 300 false (c := .tmp 22) (k1 := pt23_9) (k2 := pt23_10) (by kernel_rfl) (by intro u; kernel_rfl) (fun h => by cases h) (fun _ => ?_)
   refine At.pick [0, 1, 2, 7, 8] (e' := [(0, .slice (some ⟨b, 0, none⟩) n cap), (1, .int .i64 (i : Int)), (2, .slice (some ⟨vb, 0, none⟩) 1 1), (7, .int .i64 1), (8, .int .i64 (n : Int))]) (by kernel_rfl) ?_
   refine At.region (ops := opt23_10) (m := 6) (k' := kt23_11) (by kernel_rfl) 300 (k'' := pt23_12) (by kernel_rfl) ?_
   refine SOps.pures 2 (i' := 2) (m' := 4) (e' := [(27, .int .i64 1), (26, .int .i64 (n : Int)), (0, .slice (some ⟨b, 0, none⟩) n cap), (1, .int .i64 (i : Int)), (2, .slice (some ⟨vb, 0, none⟩) 1 1), (7, .int .i64 1), (8, .int .i64 (n : Int))]) (by intro u; kernel_rfl) ?_
   refine SOps.v (Val.pe 28 (.int .i64 (IntKind.i64.wrap ((n : Int) + 1))) (.int .i64 ((n + 1 : Nat) : Int)) (by intro u; kernel_rfl) (i64_in (by omega) (by omega) (by omega))) ?_
   refine SOps.pures 3 (i' := 6) (m' := 0) (e' := [(31, .bool (decide (((n + 1 : Nat) : Int) > (cap : Int)))), (30, .int .i64 (cap : Int)), (29, .slice (some ⟨b, 0, none⟩) n cap), (28, .int .i64 ((n + 1 : Nat) : Int)), (27, .int .i64 1), (26, .int .i64 (n : Int)), (0, .slice (some ⟨b, 0, none⟩) n cap), (1, .int .i64 (i : Int)), (2, .slice (some ⟨vb, 0, none⟩) 1 1), (7, .int .i64 1), (8, .int .i64 (n : Int))]) (by intro u; kernel_rfl) ?_
   refine SOps.nil (.inl rfl) ?_
   refine At.pick [0, 1, 2, 7, 8, 31] (e' := [(0, .slice (some ⟨b, 0, none⟩) n cap), (1, .int .i64 (i : Int)), (2, .slice (some ⟨vb, 0, none⟩) 1 1), (7, .int .i64 1), (8, .int .i64 (n : Int)), (31, .bool (decide (((n + 1 : Nat) : Int) > (cap : Int))))]) (by kernel_rfl) ?_
   refine At.split (fun zq => [(0, .slice (some ⟨b, 0, none⟩) n cap), (1, .int .i64 (i : Int)), (2, .slice (some ⟨vb, 0, none⟩) 1 1), (7, .int .i64 1), (8, .int .i64 (n : Int)), (31, .bool zq)]) (decide (((n + 1 : Nat) : Int) > (cap : Int))) (fun hx3 => ?_) (fun hx3 => ?_)
   ·have hx3 : ((n + 1 : Nat) : Int) > (cap : Int) := by simpa using hx3
    refine At.cond 300 true (c := .tmp 31) (k1 := pt23_13) (k2 := pt23_14) (by kernel_rfl) (by intro u; kernel_rfl) (fun _ => ?_) (fun h => by cases h)
    refine At.pick [0, 1, 2, 7, 8] (e' := [(0, .slice (some ⟨b, 0, none⟩) n cap), (1, .int .i64 (i : Int)), (2, .slice (some ⟨vb, 0, none⟩) 1 1), (7, .int .i64 1), (8, .int .i64 (n : Int))]) (by kernel_rfl) ?_
    refine At.region (ops := opt23_13) (m := 10) (k' := kt23_12) (by kernel_rfl) 300 (k'' := pt23_15) (by kernel_rfl) ?_
    refine SOps.pures 2 (i' := 2) (m' := 8) (e' := [(33, .int .i64 (i : Int)), (32, .slice (some ⟨b, 0, none⟩) n cap), (0, .slice (some ⟨b, 0, none⟩) n cap), (1, .int .i64 (i : Int)), (2, .slice (some ⟨vb, 0, none⟩) 1 1), (7, .int .i64 1), (8, .int .i64 (n : Int))]) (by intro u; kernel_rfl) ?_
    refine SOps.v (Val.pv 34 (vN (Instr.sliceAt 25 (.slice (some ⟨b, 0, none⟩) n cap) none (some (.int .i64 (i : Int))) none)) (.slice (some ⟨b, 0, none⟩) i cap) (by intro u; kernel_rfl) (pv_sliceHiO (el := 30) (sz := 4) (by kernel_rfl) (by kernel_rfl) (by omega) (by omega) (by omega))) ?_
    refine SOps.pures 2 (i' := 5) (m' := 5) (e' := [(36, .int .i64 1), (35, .int .i64 (n : Int)), (34, .slice (some ⟨b, 0, none⟩) i cap), (33, .int .i64 (i : Int)), (32, .slice (some ⟨b, 0, none⟩) n cap), (0, .slice (some ⟨b, 0, none⟩) n cap), (1, .int .i64 (i : Int)), (2, .slice (some ⟨vb, 0, none⟩) 1 1), (7, .int .i64 1), (8, .int .i64 (n : Int))]) (by intro u; kernel_rfl) ?_
    refine SOps.v (Val.pe 37 (.int .i64 (IntKind.i64.wrap ((n : Int) + 1))) (.int .i64 ((n + 1 : Nat) : Int)) (by intro u; kernel_rfl) (i64_in (by omega) (by omega) (by omega))) ?_
    refine SOps.pures 1 (i' := 7) (m' := 3) (e' := [(38, .int .i64 (i : Int)), (37, .int .i64 ((n + 1 : Nat) : Int)), (36, .int .i64 1), (35, .int .i64 (n : Int)), (34, .slice (some ⟨b, 0, none⟩) i cap), (33, .int .i64 (i : Int)), (32, .slice (some ⟨b, 0, none⟩) n cap), (0, .slice (some ⟨b, 0, none⟩) n cap), (1, .int .i64 (i : Int)), (2, .slice (some ⟨vb, 0, none⟩) 1 1), (7, .int .i64 1), (8, .int .i64 (n : Int))]) (by intro u; kernel_rfl) ?_
    refine SOps.v (Val.pe 39 (.int .i64 (IntKind.i64.wrap ((((n : Int) + 1) - (i : Int))))) (.int .i64 ((n + 1 - i : Nat) : Int)) (by intro u; kernel_rfl) (i64_in (by omega) (by omega) (by omega))) ?_
    refine SOps.o (Op.appMk 0 40 (u := 3) (ty := 25) (i' := i) (q := n + 1 - i) (cap := cap) el_25 (kk := .i64) (by kernel_rfl) (((l.flatMap encA)).take (i * 4) ++ (List.replicate (n + 1 - i) [.int .i64 0, .int .i64 0, .int .i64 0, .bool false]).flatten) (r := n + 1) (by omega) rfl (by intro u; kernel_rfl) (by omega) (by omega) (by unfold maxLen; omega) (by omega) rfl ?_)
    intro bx4 cx5
    refine SOps.pures 1 (i' := 10) (m' := 0) (e' := [(9, .slice (some ⟨bx4, 0, none⟩) (n + 1) cx5), (40, .slice (some ⟨bx4, 0, none⟩) (n + 1) cx5), (39, .int .i64 ((n + 1 - i : Nat) : Int)), (38, .int .i64 (i : Int)), (37, .int .i64 ((n + 1 : Nat) : Int)), (36, .int .i64 1), (35, .int .i64 (n : Int)), (34, .slice (some ⟨b, 0, none⟩) i cap), (33, .int .i64 (i : Int)), (32, .slice (some ⟨b, 0, none⟩) n cap), (0, .slice (some ⟨b, 0, none⟩) n cap), (1, .int .i64 (i : Int)), (2, .slice (some ⟨vb, 0, none⟩) 1 1), (7, .int .i64 1), (8, .int .i64 (n : Int))]) (by intro u; kernel_rfl) ?_
    refine SOps.nil (.inl rfl) ?_
    refine At.pick [0, 1, 2, 7, 9] (e' := [(0, .slice (some ⟨b, 0, none⟩) n cap), (1, .int .i64 (i : Int)), (2, .slice (some ⟨vb, 0, none⟩) 1 1), (7, .int .i64 1), (9, .slice (some ⟨bx4, 0, none⟩) (n + 1) cx5)]) (by kernel_rfl) ?_
    refine At.region (ops := opt23_15) (m := 5) (k' := kt23_14) (by kernel_rfl) 300 (k'' := pt23_16) (by kernel_rfl) ?_
    refine SOps.pures 2 (i' := 2) (m' := 3) (e' := [(42, .int .i64 (i : Int)), (41, .slice (some ⟨bx4, 0, none⟩) (n + 1) cx5), (0, .slice (some ⟨b, 0, none⟩) n cap), (1, .int .i64 (i : Int)), (2, .slice (some ⟨vb, 0, none⟩) 1 1), (7, .int .i64 1), (9, .slice (some ⟨bx4, 0, none⟩) (n + 1) cx5)]) (by intro u; kernel_rfl) ?_
    refine SOps.learn (fun F w ho => Grow.some (j := 0) ho rfl) (fun gx6 => ?_)
    obtain ⟨gx6a, gx6b, gx6c, gx6d⟩ := gx6
    refine SOps.v (Val.pv 43 (vN (Instr.sliceAt 25 (.slice (some ⟨bx4, 0, none⟩) (n + 1) cx5) (some (.int .i64 (i : Int))) none none)) (.slice (subS (some ⟨bx4, 0, none⟩) i cx5 4) ((n + 1) - i) (cx5 - i)) (by intro u; kernel_rfl) (pv_sliceLoO (el := 30) (sz := 4) (by kernel_rfl) (by kernel_rfl) (by omega) (by omega) (by omega))) ?_
    refine SOps.pures 1 (i' := 4) (m' := 1) (e' := [(44, .slice (some ⟨vb, 0, none⟩) 1 1), (43, .slice (subS (some ⟨bx4, 0, none⟩) i cx5 4) ((n + 1) - i) (cx5 - i)), (42, .int .i64 (i : Int)), (41, .slice (some ⟨bx4, 0, none⟩) (n + 1) cx5), (0, .slice (some ⟨b, 0, none⟩) n cap), (1, .int .i64 (i : Int)), (2, .slice (some ⟨vb, 0, none⟩) 1 1), (7, .int .i64 1), (9, .slice (some ⟨bx4, 0, none⟩) (n + 1) cx5)]) (by intro u; kernel_rfl) ?_
    refine SOps.o (Op.copy 0 2 45 (t2 := 25) (ty := 3) (l1 := (n + 1 - i)) (c1 := (cx5 - i)) (l2 := 1) (c2 := 1) (q := 1) el_25 (encA a) (A' := [Grow (some ⟨bx4, 0, none⟩) cx5 30 4 (n + 1) ((l.take i ++ [a]).flatMap encA ++ (List.replicate (n + 1 - i - 1) [.int .i64 0, .int .i64 0, .int .i64 0, .bool false]).flatten), Grow (some ⟨b, 0, none⟩) cap 30 4 n (l.flatMap encA), Cells vb 30 [.int .i64 a.id, .int .i64 a.minute, .int .i64 a.days, .bool a.off]]) rfl rfl (by intro u; kernel_rfl) (by simp only [Nat.min_def]; split <;> omega) rfl rfl SrcOf.cells (WrOf.sub i (by rw [List.length_append, List.length_take, flat_len encA 4 (fun _ => rfl)]; first | (simp [encA]; done) | (simp [encA]; omega)) (lay1 encA 4 (fun _ => rfl) l a (by omega) (by omega) rfl)) rfl ?_)
    refine SOps.nil (.inl rfl) ?_
    refine At.pick [0, 1, 7, 9] (e' := [(0, .slice (some ⟨b, 0, none⟩) n cap), (1, .int .i64 (i : Int)), (7, .int .i64 1), (9, .slice (some ⟨bx4, 0, none⟩) (n + 1) cx5)]) (by kernel_rfl) ?_
    refine At.game [0, 0, 0] 8 (L := #[false, false, false, false, false, false, false, false, false]) (ops := opt23_16) (m := 9) (k' := kt23_15) (by kernel_rfl) 300 (k'' := pt23_17) (by kernel_rfl) (by kernel_rfl) rfl (H := [Grow (some ⟨bx4, 0, none⟩) cx5 30 4 (n + 1) ((l.take i ++ [a]).flatMap encA ++ (List.replicate (n + 1 - i - 1) [.int .i64 0, .int .i64 0, .int .i64 0, .bool false]).flatten), Grow (some ⟨b, 0, none⟩) cap 30 4 n (l.flatMap encA), Cells vb 30 [.int .i64 a.id, .int .i64 a.minute, .int .i64 a.days, .bool a.off]]) (E := []) rfl ?_
    refine GOps.pures [0, 1, 2, 5, 6] (L' := #[true, true, true, false, false, true, true, false, false]) (m' := 4) (e' := [(52, .int .i64 (i : Int)), (51, .slice (some ⟨b, 0, none⟩) n cap), (48, .int .i64 1), (47, .int .i64 (i : Int)), (46, .slice (some ⟨bx4, 0, none⟩) (n + 1) cx5), (0, .slice (some ⟨b, 0, none⟩) n cap), (1, .int .i64 (i : Int)), (7, .int .i64 1), (9, .slice (some ⟨bx4, 0, none⟩) (n + 1) cx5)]) (by kernel_rfl) (by intro u; kernel_rfl) ?_
    refine GOps.v 3 (Val.pe 49 (.int .i64 (IntKind.i64.wrap ((i : Int) + 1))) (.int .i64 ((i + 1 : Nat) : Int)) (by intro u; kernel_rfl) (i64_in (by omega) (by omega) (by omega))) (by kernel_rfl) (by kernel_rfl) (by kernel_rfl) (by kernel_rfl) (L' := #[true, true, true, true, false, true, true, false, false]) rfl ?_
    refine GOps.v 4 (Val.pv 50 (vN (Instr.sliceAt 25 (.slice (some ⟨bx4, 0, none⟩) (n + 1) cx5) (some (.int .i64 ((i + 1 : Nat) : Int))) none none)) (.slice (subS (some ⟨bx4, 0, none⟩) (i + 1) cx5 4) ((n + 1) - (i + 1)) (cx5 - (i + 1))) (by intro u; kernel_rfl) (pv_sliceLoO (el := 30) (sz := 4) (by kernel_rfl) (by kernel_rfl) (by omega) (by omega) (by omega))) (by kernel_rfl) (by kernel_rfl) (by kernel_rfl) (by kernel_rfl) (L' := #[true, true, true, true, true, true, true, false, false]) rfl ?_
    refine GOps.v 7 (Val.pv 53 (vN (Instr.sliceAt 25 (.slice (some ⟨b, 0, none⟩) n cap) (some (.int .i64 (i : Int))) none none)) (.slice (subS (some ⟨b, 0, none⟩) i cap 4) (n - i) (cap - i)) (by intro u; kernel_rfl) (pv_sliceLoO (el := 30) (sz := 4) (by kernel_rfl) (by kernel_rfl) (by omega) (by omega) (by omega))) (by kernel_rfl) (by kernel_rfl) (by kernel_rfl) (by kernel_rfl) (L' := #[true, true, true, true, true, true, true, true, false]) rfl ?_
    refine GOps.one 8 (by kernel_rfl) (GStep.d (L' := #[true, true, true, true, true, true, true, true, true]) rfl rfl (Op.copy 0 1 54 (t2 := 25) (ty := 3) (l1 := (n + 1 - (i + 1))) (c1 := (cx5 - (i + 1))) (l2 := (n - i)) (c2 := (cap - i)) (q := (n - i)) el_25 ((l.drop i).flatMap encA) (A' := [Grow (some ⟨bx4, 0, none⟩) cx5 30 4 (n + 1) ((insA l i a).flatMap encA), Grow (some ⟨b, 0, none⟩) cap 30 4 n (l.flatMap encA), Cells vb 30 [.int .i64 a.id, .int .i64 a.minute, .int .i64 a.days, .bool a.off]]) rfl rfl (by intro u; kernel_rfl) (by simp only [Nat.min_def]; split <;> omega) (by rw [flat_len encA 4 (fun _ => rfl), List.length_drop, hl]) (flat_one encA (fun _ => rfl) _) (SrcOf.suf encA 4 (fun _ => rfl) hl i (by omega)) (WrOf.sub (i + 1) (by rw [List.length_append, flat_len encA 4 (fun _ => rfl), flat_len encA 4 (fun _ => rfl)]; first | (simp; done) | (simp; omega)) (lay2 encA 4 (fun _ => rfl) l a (by omega) (by omega) rfl)) rfl ?_))
    refine GOps.nil (by kernel_rfl) ?_
    refine At.pick [9] (e' := [(9, .slice (some ⟨bx4, 0, none⟩) (n + 1) cx5)]) (by kernel_rfl) ?_
    refine At.region (ops := opt23_17) (m := 2) (k' := kt23_16) (by kernel_rfl) 300 (k'' := pt23_18) (by kernel_rfl) ?_
    refine SOps.pures 2 (i' := 2) (m' := 0) (e' := [(6, .slice (some ⟨bx4, 0, none⟩) (n + 1) cx5), (55, .slice (some ⟨bx4, 0, none⟩) (n + 1) cx5), (9, .slice (some ⟨bx4, 0, none⟩) (n + 1) cx5)]) (by intro u; kernel_rfl) ?_
    refine SOps.nil (.inl rfl) ?_
    refine At.pick [6] (e' := [(6, .slice (some ⟨bx4, 0, none⟩) (n + 1) cx5)]) (by kernel_rfl) ?_
    refine At.ret1 (fn := Try.f23) (v := .slice (some ⟨bx4, 0, none⟩) (n + 1) cx5) (t := 6) (by kernel_rfl) Try.func23 (by kernel_rfl) (by kernel_rfl) (fun F w ho => ?_)
    exact shutX (p := fun _ => True) ((some ⟨bx4, 0, none⟩), cx5) rfl trivial [0] rfl ho
   ·have hx3 : ((n + 1 : Nat) : Int) ≤ (cap : Int) := by simpa using hx3
    refine At.cond 300 false (c := .tmp 31) (k1 := pt23_13) (k2 := pt23_14) (by kernel_rfl) (by intro u; kernel_rfl) (fun h => by cases h) (fun _ => ?_)
    refine At.pick [0, 1, 2, 7, 8] (e' := [(0, .slice (some ⟨b, 0, none⟩) n cap), (1, .int .i64 (i : Int)), (2, .slice (some ⟨vb, 0, none⟩) 1 1), (7, .int .i64 1), (8, .int .i64 (n : Int))]) (by kernel_rfl) ?_
    refine At.conseq (X := { l : List Value // l.length = 1 * 4 }) (A' := fun x => [Grow (some ⟨b, 0, none⟩) cap 30 4 (n + 1) (l.flatMap encA ++ x.1), Cells vb 30 [.int .i64 a.id, .int .i64 a.minute, .int .i64 a.days, .bool a.off]]) (fun F w ho => Grow.ext_at (j := 0) 1 (by omega) rfl ho) (fun x => ?_)
    refine At.region (ops := opt23_14) (m := 6) (k' := kt23_13) (by kernel_rfl) 300 (k'' := pt23_19) (by kernel_rfl) ?_
    refine SOps.pures 3 (i' := 3) (m' := 3) (e' := [(58, .int .i64 1), (57, .int .i64 (n : Int)), (56, .slice (some ⟨b, 0, none⟩) n cap), (0, .slice (some ⟨b, 0, none⟩) n cap), (1, .int .i64 (i : Int)), (2, .slice (some ⟨vb, 0, none⟩) 1 1), (7, .int .i64 1), (8, .int .i64 (n : Int))]) (by intro u; kernel_rfl) ?_
    refine SOps.v (Val.pe 59 (.int .i64 (IntKind.i64.wrap ((n : Int) + 1))) (.int .i64 ((n + 1 : Nat) : Int)) (by intro u; kernel_rfl) (i64_in (by omega) (by omega) (by omega))) ?_
    refine SOps.learn (fun F w ho => Grow.some (j := 0) ho rfl) (fun gx4 => ?_)
    obtain ⟨gx4a, gx4b, gx4c, gx4d⟩ := gx4
    refine SOps.v (Val.pv 60 (vN (Instr.sliceAt 25 (.slice (some ⟨b, 0, none⟩) n cap) none (some (.int .i64 ((n + 1 : Nat) : Int))) none)) (.slice (some ⟨b, 0, none⟩) (n + 1) cap) (by intro u; kernel_rfl) (pv_sliceHiO (el := 30) (sz := 4) (by kernel_rfl) (by kernel_rfl) (by omega) (by omega) (by omega))) ?_
    refine SOps.pures 1 (i' := 6) (m' := 0) (e' := [(0, .slice (some ⟨b, 0, none⟩) (n + 1) cap), (60, .slice (some ⟨b, 0, none⟩) (n + 1) cap), (59, .int .i64 ((n + 1 : Nat) : Int)), (58, .int .i64 1), (57, .int .i64 (n : Int)), (56, .slice (some ⟨b, 0, none⟩) n cap), (0, .slice (some ⟨b, 0, none⟩) n cap), (1, .int .i64 (i : Int)), (2, .slice (some ⟨vb, 0, none⟩) 1 1), (7, .int .i64 1), (8, .int .i64 (n : Int))]) (by intro u; kernel_rfl) ?_
    refine SOps.nil (.inl rfl) ?_
    refine At.pick [0, 1, 2, 7, 8] (e' := [(0, .slice (some ⟨b, 0, none⟩) (n + 1) cap), (1, .int .i64 (i : Int)), (2, .slice (some ⟨vb, 0, none⟩) 1 1), (7, .int .i64 1), (8, .int .i64 (n : Int))]) (by kernel_rfl) ?_
    refine At.region (ops := opt23_19) (m := 8) (k' := kt23_18) (by kernel_rfl) 300 (k'' := pt23_20) (by kernel_rfl) ?_
    refine SOps.pures 4 (i' := 4) (m' := 4) (e' := [(64, .int .i64 1), (63, .int .i64 (i : Int)), (62, .slice (some ⟨b, 0, none⟩) (n + 1) cap), (61, .slice (some ⟨vb, 0, none⟩) 1 1), (0, .slice (some ⟨b, 0, none⟩) (n + 1) cap), (1, .int .i64 (i : Int)), (2, .slice (some ⟨vb, 0, none⟩) 1 1), (7, .int .i64 1), (8, .int .i64 (n : Int))]) (by intro u; kernel_rfl) ?_
    refine SOps.v (Val.pe 65 (.int .i64 (IntKind.i64.wrap ((i : Int) + 1))) (.int .i64 ((i + 1 : Nat) : Int)) (by intro u; kernel_rfl) (i64_in (by omega) (by omega) (by omega))) ?_
    refine SOps.v (Val.pv 66 (vN (Instr.sliceAt 25 (.slice (some ⟨b, 0, none⟩) (n + 1) cap) (some (.int .i64 ((i + 1 : Nat) : Int))) none none)) (.slice (subS (some ⟨b, 0, none⟩) (i + 1) cap 4) ((n + 1) - (i + 1)) (cap - (i + 1))) (by intro u; kernel_rfl) (pv_sliceLoO (el := 30) (sz := 4) (by kernel_rfl) (by kernel_rfl) (by omega) (by omega) (by omega))) ?_
    skip
    refine SOps.v (Val.of 67 (callFunc 28 #[.slice (some ⟨vb, 0, none⟩) 1 1, .slice (subS (some ⟨b, 0, none⟩) (i + 1) cap 4) ((n + 1) - (i + 1)) (cap - (i + 1))]) (.bool false) (by intro u; kernel_rfl) (fun F w ho => run_over (ty := 4) el_25 (fn := Try.f28) Try.func28 (by kernel_rfl) (by kernel_rfl) (by kernel_rfl) (by kernel_rfl) ho (by decide) (i := 1) (j := 0) rfl rfl (by omega))) ?_
    refine SOps.pures 1 (i' := 8) (m' := 0) (e' := [(68, .bool true), (67, .bool false), (66, .slice (subS (some ⟨b, 0, none⟩) (i + 1) cap 4) ((n + 1) - (i + 1)) (cap - (i + 1))), (65, .int .i64 ((i + 1 : Nat) : Int)), (64, .int .i64 1), (63, .int .i64 (i : Int)), (62, .slice (some ⟨b, 0, none⟩) (n + 1) cap), (61, .slice (some ⟨vb, 0, none⟩) 1 1), (0, .slice (some ⟨b, 0, none⟩) (n + 1) cap), (1, .int .i64 (i : Int)), (2, .slice (some ⟨vb, 0, none⟩) 1 1), (7, .int .i64 1), (8, .int .i64 (n : Int))]) (by intro u; kernel_rfl) ?_
    refine SOps.nil (.inl rfl) ?_
    refine At.pick [0, 1, 2, 7, 8, 68] (e' := [(0, .slice (some ⟨b, 0, none⟩) (n + 1) cap), (1, .int .i64 (i : Int)), (2, .slice (some ⟨vb, 0, none⟩) 1 1), (7, .int .i64 1), (8, .int .i64 (n : Int)), (68, .bool true)]) (by kernel_rfl) ?_
    refine At.cond 300 true (c := .tmp 68) (k1 := pt23_21) (k2 := pt23_22) (by kernel_rfl) (by intro u; kernel_rfl) (fun _ => ?_) (fun h => by cases h)
    refine At.pick [0, 1, 2, 7] (e' := [(0, .slice (some ⟨b, 0, none⟩) (n + 1) cap), (1, .int .i64 (i : Int)), (2, .slice (some ⟨vb, 0, none⟩) 1 1), (7, .int .i64 1)]) (by kernel_rfl) ?_
    refine At.game [0, 0] 8 (L := #[false, false, false, false, false, false, false, false, false]) (ops := opt23_21) (m := 9) (k' := kt23_19) (by kernel_rfl) 300 (k'' := pt23_23) (by kernel_rfl) (by kernel_rfl) rfl (H := [Grow (some ⟨b, 0, none⟩) cap 30 4 (n + 1) (l.flatMap encA ++ x.1), Cells vb 30 [.int .i64 a.id, .int .i64 a.minute, .int .i64 a.days, .bool a.off]]) (E := []) rfl ?_
    refine GOps.pures [0, 1, 2, 5, 6] (L' := #[true, true, true, false, false, true, true, false, false]) (m' := 4) (e' := [(75, .int .i64 (i : Int)), (74, .slice (some ⟨b, 0, none⟩) (n + 1) cap), (71, .int .i64 1), (70, .int .i64 (i : Int)), (69, .slice (some ⟨b, 0, none⟩) (n + 1) cap), (0, .slice (some ⟨b, 0, none⟩) (n + 1) cap), (1, .int .i64 (i : Int)), (2, .slice (some ⟨vb, 0, none⟩) 1 1), (7, .int .i64 1)]) (by kernel_rfl) (by intro u; kernel_rfl) ?_
    refine GOps.v 3 (Val.pe 72 (.int .i64 (IntKind.i64.wrap ((i : Int) + 1))) (.int .i64 ((i + 1 : Nat) : Int)) (by intro u; kernel_rfl) (i64_in (by omega) (by omega) (by omega))) (by kernel_rfl) (by kernel_rfl) (by kernel_rfl) (by kernel_rfl) (L' := #[true, true, true, true, false, true, true, false, false]) rfl ?_
    refine GOps.v 4 (Val.pv 73 (vN (Instr.sliceAt 25 (.slice (some ⟨b, 0, none⟩) (n + 1) cap) (some (.int .i64 ((i + 1 : Nat) : Int))) none none)) (.slice (subS (some ⟨b, 0, none⟩) (i + 1) cap 4) ((n + 1) - (i + 1)) (cap - (i + 1))) (by intro u; kernel_rfl) (pv_sliceLoO (el := 30) (sz := 4) (by kernel_rfl) (by kernel_rfl) (by omega) (by omega) (by omega))) (by kernel_rfl) (by kernel_rfl) (by kernel_rfl) (by kernel_rfl) (L' := #[true, true, true, true, true, true, true, false, false]) rfl ?_
    refine GOps.v 7 (Val.pv 76 (vN (Instr.sliceAt 25 (.slice (some ⟨b, 0, none⟩) (n + 1) cap) (some (.int .i64 (i : Int))) none none)) (.slice (subS (some ⟨b, 0, none⟩) i cap 4) ((n + 1) - i) (cap - i)) (by intro u; kernel_rfl) (pv_sliceLoO (el := 30) (sz := 4) (by kernel_rfl) (by kernel_rfl) (by omega) (by omega) (by omega))) (by kernel_rfl) (by kernel_rfl) (by kernel_rfl) (by kernel_rfl) (L' := #[true, true, true, true, true, true, true, true, false]) rfl ?_
    refine GOps.one 8 (by kernel_rfl) (GStep.d (L' := #[true, true, true, true, true, true, true, true, true]) rfl rfl (Op.copy 0 0 77 (t2 := 25) (ty := 3) (l1 := (n + 1 - (i + 1))) (c1 := (cap - (i + 1))) (l2 := (n + 1 - i)) (c2 := (cap - i)) (q := (n - i)) el_25 ((l.drop i).flatMap encA) (A' := [Grow (some ⟨b, 0, none⟩) cap 30 4 (n + 1) ((l.take (i + 1) ++ l.drop i).flatMap encA), Cells vb 30 [.int .i64 a.id, .int .i64 a.minute, .int .i64 a.days, .bool a.off]]) rfl rfl (by intro u; kernel_rfl) (by simp only [Nat.min_def]; split <;> omega) (by rw [flat_len encA 4 (fun _ => rfl), List.length_drop, hl]) (flat_one encA (fun _ => rfl) _) (src3 encA 4 (fun _ => rfl) hl i (by omega) x.1) (WrOf.sub (i + 1) (by rw [List.length_append, flat_len encA 4 (fun _ => rfl), flat_len encA 4 (fun _ => rfl), x.2]; first | (simp; done) | (simp; omega)) (lay3 encA 4 (fun _ => rfl) l (by omega) x.2)) rfl ?_))
    refine GOps.nil (by kernel_rfl) ?_
    refine At.pick [0, 1, 2] (e' := [(0, .slice (some ⟨b, 0, none⟩) (n + 1) cap), (1, .int .i64 (i : Int)), (2, .slice (some ⟨vb, 0, none⟩) 1 1)]) (by kernel_rfl) ?_
    refine At.region (ops := opt23_23) (m := 5) (k' := kt23_21) (by kernel_rfl) 300 (k'' := pt23_24) (by kernel_rfl) ?_
    refine SOps.pures 2 (i' := 2) (m' := 3) (e' := [(79, .int .i64 (i : Int)), (78, .slice (some ⟨b, 0, none⟩) (n + 1) cap), (0, .slice (some ⟨b, 0, none⟩) (n + 1) cap), (1, .int .i64 (i : Int)), (2, .slice (some ⟨vb, 0, none⟩) 1 1)]) (by intro u; kernel_rfl) ?_
    refine SOps.v (Val.pv 80 (vN (Instr.sliceAt 25 (.slice (some ⟨b, 0, none⟩) (n + 1) cap) (some (.int .i64 (i : Int))) none none)) (.slice (subS (some ⟨b, 0, none⟩) i cap 4) ((n + 1) - i) (cap - i)) (by intro u; kernel_rfl) (pv_sliceLoO (el := 30) (sz := 4) (by kernel_rfl) (by kernel_rfl) (by omega) (by omega) (by omega))) ?_
    refine SOps.pures 1 (i' := 4) (m' := 1) (e' := [(81, .slice (some ⟨vb, 0, none⟩) 1 1), (80, .slice (subS (some ⟨b, 0, none⟩) i cap 4) ((n + 1) - i) (cap - i)), (79, .int .i64 (i : Int)), (78, .slice (some ⟨b, 0, none⟩) (n + 1) cap), (0, .slice (some ⟨b, 0, none⟩) (n + 1) cap), (1, .int .i64 (i : Int)), (2, .slice (some ⟨vb, 0, none⟩) 1 1)]) (by intro u; kernel_rfl) ?_
    refine SOps.o (Op.copy 0 1 82 (t2 := 25) (ty := 3) (l1 := (n + 1 - i)) (c1 := (cap - i)) (l2 := 1) (c2 := 1) (q := 1) el_25 (encA a) (A' := [Grow (some ⟨b, 0, none⟩) cap 30 4 (n + 1) ((insA l i a).flatMap encA), Cells vb 30 [.int .i64 a.id, .int .i64 a.minute, .int .i64 a.days, .bool a.off]]) rfl rfl (by intro u; kernel_rfl) (by simp only [Nat.min_def]; split <;> omega) rfl rfl SrcOf.cells (WrOf.sub i (by rw [flat_len encA 4 (fun _ => rfl)]; first | (simp [encA]; done) | (simp [encA]; omega)) (lay4 encA 4 (fun _ => rfl) l a (by omega))) rfl ?_)
    refine SOps.nil (.inl rfl) ?_
    refine At.pick [0] (e' := [(0, .slice (some ⟨b, 0, none⟩) (n + 1) cap)]) (by kernel_rfl) ?_
    refine At.region (ops := opt23_24) (m := 2) (k' := kt23_22) (by kernel_rfl) 300 (k'' := pt23_25) (by kernel_rfl) ?_
    refine SOps.pures 2 (i' := 2) (m' := 0) (e' := [(6, .slice (some ⟨b, 0, none⟩) (n + 1) cap), (83, .slice (some ⟨b, 0, none⟩) (n + 1) cap), (0, .slice (some ⟨b, 0, none⟩) (n + 1) cap)]) (by intro u; kernel_rfl) ?_
    refine SOps.nil (.inl rfl) ?_
    refine At.pick [6] (e' := [(6, .slice (some ⟨b, 0, none⟩) (n + 1) cap)]) (by kernel_rfl) ?_
    refine At.ret1 (fn := Try.f23) (v := .slice (some ⟨b, 0, none⟩) (n + 1) cap) (t := 6) (by kernel_rfl) Try.func23 (by kernel_rfl) (by kernel_rfl) (fun F w ho => ?_)
    exact shutX (p := fun _ => True) ((some ⟨b, 0, none⟩), cap) rfl trivial [0] rfl ho
end Go.Proofs.Wk
