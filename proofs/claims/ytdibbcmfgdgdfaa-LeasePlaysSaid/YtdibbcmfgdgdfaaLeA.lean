/- Leases: the small ones. -/
import Derived.Test.YtdibbcmfgdgdfaaLeM
import Derived.Test.YtdibbcmfgdgdfaaProg
namespace Go.Proofs.Le
open Go Go.Sp Go.Le
set_option linter.unusedVariables false
set_option linter.unusedSimpArgs false
set_option linter.unnecessarySimpa false
set_option maxRecDepth 100000
noncomputable def bd19 : Code := (Try.f19.body).getD .skip
noncomputable def kt19_0 : List Item := .code (pick [1] bd19) :: []
noncomputable def pt19_0 : List Item := .code (pick [0] bd19) :: kt19_0
noncomputable def opt19_0 : Array Oper := opsOf (pick [0] bd19)
noncomputable def kt19_1 : List Item := .code (pick [1, 1] bd19) :: []
noncomputable def pt19_1 : List Item := .code (pick [1, 0] bd19) :: kt19_1
noncomputable def opt19_1 : Array Oper := opsOf (pick [1, 0] bd19)
noncomputable def pt19_2 : List Item := .code (pick [1, 1] bd19) :: []
theorem clampF (x : Int) : Ctr Try.prog 19 #[.int .i64 x] [] (fun v' => star (fact (v' = .int .i64 (clampI x)) :: [])) false := by
 refine spec_of_at (fn := Try.f19) (c := bd19) (args := [.int .i64 x]) (n := 6) (e := [(0, .int .i64 x)]) (k := pt19_0) Try.func19 (by kernel_rfl) (by kernel_rfl) (by kernel_rfl) (by kernel_rfl) 300 (by kernel_rfl) ?_
 refine At.region (ops := opt19_0) (m := 1) (k' := kt19_0) (by kernel_rfl) 300 (k'' := pt19_1) (by kernel_rfl) ?_
 refine SOps.pures 1 (i' := 1) (m' := 0) (e' := [(2, .int .i64 0), (0, .int .i64 x)]) (by intro u; kernel_rfl) ?_
 refine SOps.nil (.inl rfl) ?_
 refine At.pick [0] (e' := [(0, .int .i64 x)]) (by kernel_rfl) ?_
 refine At.region (ops := opt19_1) (m := 4) (k' := kt19_1) (by kernel_rfl) 300 (k'' := pt19_2) (by kernel_rfl) ?_
 refine SOps.pures 1 (i' := 1) (m' := 3) (e' := [(3, .int .i64 x), (0, .int .i64 x)]) (by intro u; kernel_rfl) ?_
 refine SOps.v (Val.pe 4 (.int .i64 (if x < -4611686018427387903 then -4611686018427387903 else x)) (.int .i64 (max x (-4611686018427387903))) (by intro u; kernel_rfl) (int_max _ _ _)) ?_
 refine SOps.v (Val.pe 5 (.int .i64 (if 4611686018427387903 < (max x (-4611686018427387903)) then 4611686018427387903 else (max x (-4611686018427387903)))) (.int .i64 (min (max x (-4611686018427387903)) 4611686018427387903)) (by intro u; kernel_rfl) (int_min _ _ _)) ?_
 refine SOps.pures 1 (i' := 4) (m' := 0) (e' := [(2, .int .i64 (min (max x (-4611686018427387903)) 4611686018427387903)), (5, .int .i64 (min (max x (-4611686018427387903)) 4611686018427387903)), (4, .int .i64 (max x (-4611686018427387903))), (3, .int .i64 x), (0, .int .i64 x)]) (by intro u; kernel_rfl) ?_
 refine SOps.nil (.inl rfl) ?_
 refine At.pick [2] (e' := [(2, .int .i64 (min (max x (-4611686018427387903)) 4611686018427387903))]) (by kernel_rfl) ?_
 refine At.ret1 (fn := Try.f19) (v := .int .i64 (min (max x (-4611686018427387903)) 4611686018427387903)) (t := 2) (by kernel_rfl) Try.func19 (by kernel_rfl) (by kernel_rfl) (fun F w ho => ?_)
 exact shutV (rfl) [] rfl ho
noncomputable def bd20 : Code := (Try.f20.body).getD .skip
noncomputable def kt20_0 : List Item := .code (pick [1] bd20) :: []
noncomputable def pt20_0 : List Item := .code (pick [0] bd20) :: kt20_0
noncomputable def opt20_0 : Array Oper := opsOf (pick [0] bd20)
noncomputable def kt20_1 : List Item := .code (pick [1, 1] bd20) :: []
noncomputable def pt20_1 : List Item := .code (pick [1, 0] bd20) :: kt20_1
noncomputable def opt20_1 : Array Oper := opsOf (pick [1, 0] bd20)
noncomputable def pt20_2 : List Item := .code (pick [1, 1] bd20) :: []
theorem neverF (x : Int) : Ctr Try.prog 20 #[.int .i64 x] [] (fun v' => star (fact (v' = .bool (decide (x ≥ 4611686018427387903))) :: [])) false := by
 refine spec_of_at (fn := Try.f20) (c := bd20) (args := [.int .i64 x]) (n := 5) (e := [(0, .int .i64 x)]) (k := pt20_0) Try.func20 (by kernel_rfl) (by kernel_rfl) (by kernel_rfl) (by kernel_rfl) 300 (by kernel_rfl) ?_
 refine At.region (ops := opt20_0) (m := 1) (k' := kt20_0) (by kernel_rfl) 300 (k'' := pt20_1) (by kernel_rfl) ?_
 refine SOps.pures 1 (i' := 1) (m' := 0) (e' := [(2, .bool false), (0, .int .i64 x)]) (by intro u; kernel_rfl) ?_
 refine SOps.nil (.inl rfl) ?_
 refine At.pick [0] (e' := [(0, .int .i64 x)]) (by kernel_rfl) ?_
 refine At.region (ops := opt20_1) (m := 3) (k' := kt20_1) (by kernel_rfl) 300 (k'' := pt20_2) (by kernel_rfl) ?_
 refine SOps.pures 3 (i' := 3) (m' := 0) (e' := [(2, .bool (decide (x ≥ 4611686018427387903))), (4, .bool (decide (x ≥ 4611686018427387903))), (3, .int .i64 x), (0, .int .i64 x)]) (by intro u; kernel_rfl) ?_
 refine SOps.nil (.inl rfl) ?_
 refine At.pick [2] (e' := [(2, .bool (decide (x ≥ 4611686018427387903)))]) (by kernel_rfl) ?_
 refine At.ret1 (fn := Try.f20) (v := .bool (decide (x ≥ 4611686018427387903))) (t := 2) (by kernel_rfl) Try.func20 (by kernel_rfl) (by kernel_rfl) (fun F w ho => ?_)
 exact shutV (rfl) [] rfl ho
noncomputable def bd17 : Code := (Try.f17.body).getD .skip
noncomputable def kt17_0 : List Item := .code (pick [1] bd17) :: []
noncomputable def pt17_0 : List Item := .code (pick [0] bd17) :: kt17_0
noncomputable def opt17_0 : Array Oper := opsOf (pick [0] bd17)
noncomputable def kt17_1 : List Item := .code (pick [1, 1] bd17) :: []
noncomputable def kt17_2 : List Item := .code (pick [1, 0, 1] bd17) :: kt17_1
noncomputable def pt17_1 : List Item := .code (pick [1, 0, 0] bd17) :: kt17_2
noncomputable def opt17_1 : Array Oper := opsOf (pick [1, 0, 0] bd17)
noncomputable def pt17_2 : List Item := .code (pick [1, 0, 1] bd17) :: kt17_1
noncomputable def kt17_3 : List Item := .code (pick [1, 0, 1, 0, 1] bd17) :: kt17_1
noncomputable def pt17_3 : List Item := .code (pick [1, 0, 1, 0, 0] bd17) :: kt17_3
noncomputable def opt17_3 : Array Oper := opsOf (pick [1, 0, 1, 0, 0] bd17)
noncomputable def kt17_4 : List Item := .code (pick [1, 1, 1] bd17) :: []
noncomputable def pt17_4 : List Item := .code (pick [1, 1, 0] bd17) :: kt17_4
noncomputable def opt17_4 : Array Oper := opsOf (pick [1, 1, 0] bd17)
noncomputable def pt17_5 : List Item := .code (pick [1, 0, 1, 0, 1] bd17) :: kt17_1
noncomputable def pt17_6 : List Item := .code (pick [1, 1, 1] bd17) :: []
theorem subF (a b : Int) : Ctr Try.prog 17 #[.int .i64 a, .int .i64 b] [] (fun v' => star (fact (v' = .int .i64 (subI a b)) :: [])) false := by
 have ha := clamp_range a
 have hb := clamp_range b
 refine spec_of_at (fn := Try.f17) (c := bd17) (args := [.int .i64 a, .int .i64 b]) (n := 13) (e := [(0, .int .i64 a), (1, .int .i64 b)]) (k := pt17_0) Try.func17 (by kernel_rfl) (by kernel_rfl) (by kernel_rfl) (by kernel_rfl) 300 (by kernel_rfl) ?_
 refine At.region (ops := opt17_0) (m := 1) (k' := kt17_0) (by kernel_rfl) 300 (k'' := pt17_1) (by kernel_rfl) ?_
 refine SOps.pures 1 (i' := 1) (m' := 0) (e' := [(4, .int .i64 0), (0, .int .i64 a), (1, .int .i64 b)]) (by intro u; kernel_rfl) ?_
 refine SOps.nil (.inl rfl) ?_
 refine At.pick [0, 1] (e' := [(0, .int .i64 a), (1, .int .i64 b)]) (by kernel_rfl) ?_
 refine At.region (ops := opt17_1) (m := 2) (k' := kt17_2) (by kernel_rfl) 300 (k'' := pt17_2) (by kernel_rfl) ?_
 refine SOps.pures 1 (i' := 1) (m' := 1) (e' := [(5, .int .i64 a), (0, .int .i64 a), (1, .int .i64 b)]) (by intro u; kernel_rfl) ?_
 refine SOps.o (Op.callS 6 20 #[.int .i64 a] (.bool (decide (a ≥ 4611686018427387903))) [] (B := []) (D := []) (by intro u; kernel_rfl) (neverF a) (by first | exact .inr rfl | exact .inl rfl) (by kernel_rfl) ?_)
 refine SOps.nil (.inl rfl) ?_
 refine At.pick [0, 1, 6] (e' := [(0, .int .i64 a), (1, .int .i64 b), (6, .bool (decide (a ≥ 4611686018427387903)))]) (by kernel_rfl) ?_
 refine At.split (fun zq => [(0, .int .i64 a), (1, .int .i64 b), (6, .bool zq)]) ((decide (a ≥ 4611686018427387903))) (fun hx1 => ?_) (fun hx1 => ?_)
 ·have hx1 : a ≥ 4611686018427387903 := by simpa using hx1
  refine At.cond 300 true (c := .tmp 6) (k1 := pt17_3) (k2 := pt17_4) (by kernel_rfl) (by intro u; kernel_rfl) (fun _ => ?_) (fun h => by cases h)
  refine At.pick [] (e' := []) (by kernel_rfl) ?_
  refine At.region (ops := opt17_3) (m := 1) (k' := kt17_3) (by kernel_rfl) 300 (k'' := pt17_5) (by kernel_rfl) ?_
  refine SOps.pures 1 (i' := 1) (m' := 0) (e' := [(4, .int .i64 4611686018427387903)]) (by intro u; kernel_rfl) ?_
  refine SOps.nil (.inl rfl) ?_
  refine At.ret1 (fn := Try.f17) (v := .int .i64 4611686018427387903) (t := 4) (by kernel_rfl) Try.func17 (by kernel_rfl) (by kernel_rfl) (fun F w ho => ?_)
  exact shutV (by unfold subI; first | rw [if_pos (by omega)] | rw [if_neg (by omega)]) [] rfl ho
 ·have hx1 : a < 4611686018427387903 := by simpa using hx1
  refine At.cond 300 false (c := .tmp 6) (k1 := pt17_3) (k2 := pt17_4) (by kernel_rfl) (by intro u; kernel_rfl) (fun h => by cases h) (fun _ => ?_)
  refine At.pick [0, 1] (e' := [(0, .int .i64 a), (1, .int .i64 b)]) (by kernel_rfl) ?_
  refine At.region (ops := opt17_4) (m := 7) (k' := kt17_4) (by kernel_rfl) 300 (k'' := pt17_6) (by kernel_rfl) ?_
  refine SOps.pures 1 (i' := 1) (m' := 6) (e' := [(7, .int .i64 a), (0, .int .i64 a), (1, .int .i64 b)]) (by intro u; kernel_rfl) ?_
  refine SOps.o (Op.callS 8 19 #[.int .i64 a] (.int .i64 (clampI a)) [] (B := []) (D := []) (by intro u; kernel_rfl) (clampF a) (by first | exact .inr rfl | exact .inl rfl) (by kernel_rfl) ?_)
  refine SOps.pures 1 (i' := 3) (m' := 4) (e' := [(9, .int .i64 b), (8, .int .i64 (clampI a)), (7, .int .i64 a), (0, .int .i64 a), (1, .int .i64 b)]) (by intro u; kernel_rfl) ?_
  refine SOps.o (Op.callS 10 19 #[.int .i64 b] (.int .i64 (clampI b)) [] (B := []) (D := []) (by intro u; kernel_rfl) (clampF b) (by first | exact .inr rfl | exact .inl rfl) (by kernel_rfl) ?_)
  refine SOps.v (Val.pe 11 (.int .i64 (IntKind.i64.wrap (clampI a - clampI b))) (.int .i64 (clampI a - clampI b)) (by intro u; kernel_rfl) (i64_in rfl (by omega) (by omega))) ?_
  refine SOps.o (Op.callS 12 19 #[.int .i64 (clampI a - clampI b)] (.int .i64 (clampI (clampI a - clampI b))) [] (B := []) (D := []) (by intro u; kernel_rfl) (clampF (clampI a - clampI b)) (by first | exact .inr rfl | exact .inl rfl) (by kernel_rfl) ?_)
  refine SOps.pures 1 (i' := 7) (m' := 0) (e' := [(4, .int .i64 (clampI (clampI a - clampI b))), (12, .int .i64 (clampI (clampI a - clampI b))), (11, .int .i64 (clampI a - clampI b)), (10, .int .i64 (clampI b)), (9, .int .i64 b), (8, .int .i64 (clampI a)), (7, .int .i64 a), (0, .int .i64 a), (1, .int .i64 b)]) (by intro u; kernel_rfl) ?_
  refine SOps.nil (.inl rfl) ?_
  refine At.pick [4] (e' := [(4, .int .i64 (clampI (clampI a - clampI b)))]) (by kernel_rfl) ?_
  refine At.ret1 (fn := Try.f17) (v := .int .i64 (clampI (clampI a - clampI b))) (t := 4) (by kernel_rfl) Try.func17 (by kernel_rfl) (by kernel_rfl) (fun F w ho => ?_)
  exact shutV (by unfold subI; first | rw [if_pos (by omega)] | rw [if_neg (by omega)]) [] rfl ho
noncomputable def bd18 : Code := (Try.f18.body).getD .skip
noncomputable def kt18_0 : List Item := .code (pick [1] bd18) :: []
noncomputable def pt18_0 : List Item := .code (pick [0] bd18) :: kt18_0
noncomputable def opt18_0 : Array Oper := opsOf (pick [0] bd18)
noncomputable def kt18_1 : List Item := .code (pick [1, 1] bd18) :: []
noncomputable def kt18_2 : List Item := .code (pick [1, 0, 1] bd18) :: kt18_1
noncomputable def pt18_1 : List Item := .code (pick [1, 0, 0] bd18) :: kt18_2
noncomputable def opt18_1 : Array Oper := opsOf (pick [1, 0, 0] bd18)
noncomputable def pt18_2 : List Item := .code (pick [1, 0, 1] bd18) :: kt18_1
noncomputable def kt18_3 : List Item := .code (pick [1, 0, 1, 0, 1] bd18) :: kt18_1
noncomputable def pt18_3 : List Item := .code (pick [1, 0, 1, 0, 0] bd18) :: kt18_3
noncomputable def opt18_3 : Array Oper := opsOf (pick [1, 0, 1, 0, 0] bd18)
noncomputable def kt18_4 : List Item := .code (pick [1, 1, 1] bd18) :: []
noncomputable def pt18_4 : List Item := .code (pick [1, 1, 0] bd18) :: kt18_4
noncomputable def opt18_4 : Array Oper := opsOf (pick [1, 1, 0] bd18)
noncomputable def pt18_5 : List Item := .code (pick [1, 0, 1, 0, 1] bd18) :: kt18_1
noncomputable def pt18_6 : List Item := .code (pick [1, 1, 1] bd18) :: []
theorem addF (a b : Int) : Ctr Try.prog 18 #[.int .i64 a, .int .i64 b] [] (fun v' => star (fact (v' = .int .i64 (addI a b)) :: [])) false := by
 have ha := clamp_range a
 have hb := clamp_range b
 refine spec_of_at (fn := Try.f18) (c := bd18) (args := [.int .i64 a, .int .i64 b]) (n := 13) (e := [(0, .int .i64 a), (1, .int .i64 b)]) (k := pt18_0) Try.func18 (by kernel_rfl) (by kernel_rfl) (by kernel_rfl) (by kernel_rfl) 300 (by kernel_rfl) ?_
 refine At.region (ops := opt18_0) (m := 1) (k' := kt18_0) (by kernel_rfl) 300 (k'' := pt18_1) (by kernel_rfl) ?_
 refine SOps.pures 1 (i' := 1) (m' := 0) (e' := [(4, .int .i64 0), (0, .int .i64 a), (1, .int .i64 b)]) (by intro u; kernel_rfl) ?_
 refine SOps.nil (.inl rfl) ?_
 refine At.pick [0, 1] (e' := [(0, .int .i64 a), (1, .int .i64 b)]) (by kernel_rfl) ?_
 refine At.region (ops := opt18_1) (m := 2) (k' := kt18_2) (by kernel_rfl) 300 (k'' := pt18_2) (by kernel_rfl) ?_
 refine SOps.pures 1 (i' := 1) (m' := 1) (e' := [(5, .int .i64 a), (0, .int .i64 a), (1, .int .i64 b)]) (by intro u; kernel_rfl) ?_
 refine SOps.o (Op.callS 6 20 #[.int .i64 a] (.bool (decide (a ≥ 4611686018427387903))) [] (B := []) (D := []) (by intro u; kernel_rfl) (neverF a) (by first | exact .inr rfl | exact .inl rfl) (by kernel_rfl) ?_)
 refine SOps.nil (.inl rfl) ?_
 refine At.pick [0, 1, 6] (e' := [(0, .int .i64 a), (1, .int .i64 b), (6, .bool (decide (a ≥ 4611686018427387903)))]) (by kernel_rfl) ?_
 refine At.split (fun zq => [(0, .int .i64 a), (1, .int .i64 b), (6, .bool zq)]) ((decide (a ≥ 4611686018427387903))) (fun hx1 => ?_) (fun hx1 => ?_)
 ·have hx1 : a ≥ 4611686018427387903 := by simpa using hx1
  refine At.cond 300 true (c := .tmp 6) (k1 := pt18_3) (k2 := pt18_4) (by kernel_rfl) (by intro u; kernel_rfl) (fun _ => ?_) (fun h => by cases h)
  refine At.pick [] (e' := []) (by kernel_rfl) ?_
  refine At.region (ops := opt18_3) (m := 1) (k' := kt18_3) (by kernel_rfl) 300 (k'' := pt18_5) (by kernel_rfl) ?_
  refine SOps.pures 1 (i' := 1) (m' := 0) (e' := [(4, .int .i64 4611686018427387903)]) (by intro u; kernel_rfl) ?_
  refine SOps.nil (.inl rfl) ?_
  refine At.ret1 (fn := Try.f18) (v := .int .i64 4611686018427387903) (t := 4) (by kernel_rfl) Try.func18 (by kernel_rfl) (by kernel_rfl) (fun F w ho => ?_)
  exact shutV (by unfold addI; first | rw [if_pos (by omega)] | rw [if_neg (by omega)]) [] rfl ho
 ·have hx1 : a < 4611686018427387903 := by simpa using hx1
  refine At.cond 300 false (c := .tmp 6) (k1 := pt18_3) (k2 := pt18_4) (by kernel_rfl) (by intro u; kernel_rfl) (fun h => by cases h) (fun _ => ?_)
  refine At.pick [0, 1] (e' := [(0, .int .i64 a), (1, .int .i64 b)]) (by kernel_rfl) ?_
  refine At.region (ops := opt18_4) (m := 7) (k' := kt18_4) (by kernel_rfl) 300 (k'' := pt18_6) (by kernel_rfl) ?_
  refine SOps.pures 1 (i' := 1) (m' := 6) (e' := [(7, .int .i64 a), (0, .int .i64 a), (1, .int .i64 b)]) (by intro u; kernel_rfl) ?_
  refine SOps.o (Op.callS 8 19 #[.int .i64 a] (.int .i64 (clampI a)) [] (B := []) (D := []) (by intro u; kernel_rfl) (clampF a) (by first | exact .inr rfl | exact .inl rfl) (by kernel_rfl) ?_)
  refine SOps.pures 1 (i' := 3) (m' := 4) (e' := [(9, .int .i64 b), (8, .int .i64 (clampI a)), (7, .int .i64 a), (0, .int .i64 a), (1, .int .i64 b)]) (by intro u; kernel_rfl) ?_
  refine SOps.o (Op.callS 10 19 #[.int .i64 b] (.int .i64 (clampI b)) [] (B := []) (D := []) (by intro u; kernel_rfl) (clampF b) (by first | exact .inr rfl | exact .inl rfl) (by kernel_rfl) ?_)
  refine SOps.v (Val.pe 11 (.int .i64 (IntKind.i64.wrap (clampI a + clampI b))) (.int .i64 (clampI a + clampI b)) (by intro u; kernel_rfl) (i64_in rfl (by omega) (by omega))) ?_
  refine SOps.o (Op.callS 12 19 #[.int .i64 (clampI a + clampI b)] (.int .i64 (clampI (clampI a + clampI b))) [] (B := []) (D := []) (by intro u; kernel_rfl) (clampF (clampI a + clampI b)) (by first | exact .inr rfl | exact .inl rfl) (by kernel_rfl) ?_)
  refine SOps.pures 1 (i' := 7) (m' := 0) (e' := [(4, .int .i64 (clampI (clampI a + clampI b))), (12, .int .i64 (clampI (clampI a + clampI b))), (11, .int .i64 (clampI a + clampI b)), (10, .int .i64 (clampI b)), (9, .int .i64 b), (8, .int .i64 (clampI a)), (7, .int .i64 a), (0, .int .i64 a), (1, .int .i64 b)]) (by intro u; kernel_rfl) ?_
  refine SOps.nil (.inl rfl) ?_
  refine At.pick [4] (e' := [(4, .int .i64 (clampI (clampI a + clampI b)))]) (by kernel_rfl) ?_
  refine At.ret1 (fn := Try.f18) (v := .int .i64 (clampI (clampI a + clampI b))) (t := 4) (by kernel_rfl) Try.func18 (by kernel_rfl) (by kernel_rfl) (fun F w ho => ?_)
  exact shutV (by unfold addI; first | rw [if_pos (by omega)] | rw [if_neg (by omega)]) [] rfl ho
noncomputable def bd16 : Code := (Try.f16.body).getD .skip
noncomputable def kt16_0 : List Item := .code (pick [1] bd16) :: []
noncomputable def pt16_0 : List Item := .code (pick [0] bd16) :: kt16_0
noncomputable def opt16_0 : Array Oper := opsOf (pick [0] bd16)
noncomputable def kt16_1 : List Item := .code (pick [1, 1] bd16) :: []
noncomputable def kt16_2 : List Item := .code (pick [1, 0, 1] bd16) :: kt16_1
noncomputable def pt16_1 : List Item := .code (pick [1, 0, 0] bd16) :: kt16_2
noncomputable def opt16_1 : Array Oper := opsOf (pick [1, 0, 0] bd16)
noncomputable def pt16_2 : List Item := .code (pick [1, 0, 1] bd16) :: kt16_1
noncomputable def kt16_3 : List Item := .code (pick [1, 0, 1, 0, 1] bd16) :: kt16_1
noncomputable def pt16_3 : List Item := .code (pick [1, 0, 1, 0, 0] bd16) :: kt16_3
noncomputable def opt16_3 : Array Oper := opsOf (pick [1, 0, 1, 0, 0] bd16)
noncomputable def kt16_4 : List Item := .code (pick [1, 1, 1] bd16) :: []
noncomputable def pt16_4 : List Item := .code (pick [1, 1, 0] bd16) :: kt16_4
noncomputable def opt16_4 : Array Oper := opsOf (pick [1, 1, 0] bd16)
noncomputable def pt16_5 : List Item := .code (pick [1, 0, 1, 0, 1] bd16) :: kt16_1
noncomputable def pt16_6 : List Item := .code (pick [1, 1, 1] bd16) :: []
theorem missingN  : Ctr Try.prog 16 #[.pointer none] [] (fun v' => star (fact (v' = .int .i64 1) :: [])) false := by
 refine spec_of_at (fn := Try.f16) (c := bd16) (args := [.pointer none]) (n := 5) (e := [(0, .pointer none)]) (k := pt16_0) Try.func16 (by kernel_rfl) (by kernel_rfl) (by kernel_rfl) (by kernel_rfl) 300 (by kernel_rfl) ?_
 refine At.region (ops := opt16_0) (m := 1) (k' := kt16_0) (by kernel_rfl) 300 (k'' := pt16_1) (by kernel_rfl) ?_
 refine SOps.pures 1 (i' := 1) (m' := 0) (e' := [(2, .int .i64 0), (0, .pointer none)]) (by intro u; kernel_rfl) ?_
 refine SOps.nil (.inl rfl) ?_
 refine At.pick [0] (e' := [(0, .pointer none)]) (by kernel_rfl) ?_
 refine At.region (ops := opt16_1) (m := 2) (k' := kt16_2) (by kernel_rfl) 300 (k'' := pt16_2) (by kernel_rfl) ?_
 refine SOps.pures 2 (i' := 2) (m' := 0) (e' := [(4, .bool true), (3, .pointer none), (0, .pointer none)]) (by intro u; kernel_rfl) ?_
 refine SOps.nil (.inl rfl) ?_
 refine At.pick [4] (e' := [(4, .bool true)]) (by kernel_rfl) ?_
 refine At.cond 300 true (c := .tmp 4) (k1 := pt16_3) (k2 := pt16_4) (by kernel_rfl) (by intro u; kernel_rfl) (fun _ => ?_) (fun h => by cases h)
 refine At.pick [] (e' := []) (by kernel_rfl) ?_
 refine At.region (ops := opt16_3) (m := 1) (k' := kt16_3) (by kernel_rfl) 300 (k'' := pt16_5) (by kernel_rfl) ?_
 refine SOps.pures 1 (i' := 1) (m' := 0) (e' := [(2, .int .i64 1)]) (by intro u; kernel_rfl) ?_
 refine SOps.nil (.inl rfl) ?_
 refine At.ret1 (fn := Try.f16) (v := .int .i64 1) (t := 2) (by kernel_rfl) Try.func16 (by kernel_rfl) (by kernel_rfl) (fun F w ho => ?_)
 exact shutV (rfl) [] rfl ho
theorem missingM (d : Nat) : Ctr Try.prog 16 #[.pointer (some ⟨d, 0, none⟩)] [] (fun v' => star (fact (v' = .int .i64 2) :: [])) false := by
 refine spec_of_at (fn := Try.f16) (c := bd16) (args := [.pointer (some ⟨d, 0, none⟩)]) (n := 5) (e := [(0, .pointer (some ⟨d, 0, none⟩))]) (k := pt16_0) Try.func16 (by kernel_rfl) (by kernel_rfl) (by kernel_rfl) (by kernel_rfl) 300 (by kernel_rfl) ?_
 refine At.region (ops := opt16_0) (m := 1) (k' := kt16_0) (by kernel_rfl) 300 (k'' := pt16_1) (by kernel_rfl) ?_
 refine SOps.pures 1 (i' := 1) (m' := 0) (e' := [(2, .int .i64 0), (0, .pointer (some ⟨d, 0, none⟩))]) (by intro u; kernel_rfl) ?_
 refine SOps.nil (.inl rfl) ?_
 refine At.pick [0] (e' := [(0, .pointer (some ⟨d, 0, none⟩))]) (by kernel_rfl) ?_
 refine At.region (ops := opt16_1) (m := 2) (k' := kt16_2) (by kernel_rfl) 300 (k'' := pt16_2) (by kernel_rfl) ?_
 refine SOps.pures 2 (i' := 2) (m' := 0) (e' := [(4, .bool false), (3, .pointer (some ⟨d, 0, none⟩)), (0, .pointer (some ⟨d, 0, none⟩))]) (by intro u; kernel_rfl) ?_
 refine SOps.nil (.inl rfl) ?_
 refine At.pick [4] (e' := [(4, .bool false)]) (by kernel_rfl) ?_
 refine At.cond 300 false (c := .tmp 4) (k1 := pt16_3) (k2 := pt16_4) (by kernel_rfl) (by intro u; kernel_rfl) (fun h => by cases h) (fun _ => ?_)
 refine At.pick [] (e' := []) (by kernel_rfl) ?_
 refine At.region (ops := opt16_4) (m := 1) (k' := kt16_4) (by kernel_rfl) 300 (k'' := pt16_6) (by kernel_rfl) ?_
 refine SOps.pures 1 (i' := 1) (m' := 0) (e' := [(2, .int .i64 2)]) (by intro u; kernel_rfl) ?_
 refine SOps.nil (.inl rfl) ?_
 refine At.ret1 (fn := Try.f16) (v := .int .i64 2) (t := 2) (by kernel_rfl) Try.func16 (by kernel_rfl) (by kernel_rfl) (fun F w ho => ?_)
 exact shutV (rfl) [] rfl ho
noncomputable def bd14 : Code := (Try.f14.body).getD .skip
noncomputable def kt14_0 : List Item := .code (pick [1] bd14) :: []
noncomputable def pt14_0 : List Item := .code (pick [0] bd14) :: kt14_0
noncomputable def opt14_0 : Array Oper := opsOf (pick [0] bd14)
noncomputable def kt14_1 : List Item := .code (pick [1, 1] bd14) :: []
noncomputable def kt14_2 : List Item := .code (pick [1, 0, 1] bd14) :: kt14_1
noncomputable def pt14_1 : List Item := .code (pick [1, 0, 0] bd14) :: kt14_2
noncomputable def opt14_1 : Array Oper := opsOf (pick [1, 0, 0] bd14)
noncomputable def pt14_2 : List Item := .code (pick [1, 0, 1] bd14) :: kt14_1
noncomputable def kt14_3 : List Item := .code (pick [1, 0, 1, 0, 1] bd14) :: kt14_1
noncomputable def pt14_3 : List Item := .code (pick [1, 0, 1, 0, 0] bd14) :: kt14_3
noncomputable def opt14_3 : Array Oper := opsOf (pick [1, 0, 1, 0, 0] bd14)
noncomputable def kt14_4 : List Item := .code (pick [1, 1, 1] bd14) :: []
noncomputable def pt14_4 : List Item := .code (pick [1, 1, 0] bd14) :: kt14_4
noncomputable def opt14_4 : Array Oper := opsOf (pick [1, 1, 0] bd14)
noncomputable def pt14_5 : List Item := .code (pick [1, 0, 1, 0, 1] bd14) :: kt14_1
noncomputable def kt14_5 : List Item := .code (pick [1, 1, 1, 1] bd14) :: []
noncomputable def pt14_6 : List Item := .code (pick [1, 1, 1, 0] bd14) :: kt14_5
noncomputable def opt14_6 : Array Oper := opsOf (pick [1, 1, 1, 0] bd14)
noncomputable def pt14_7 : List Item := .code (pick [1, 1, 1, 1] bd14) :: []
theorem atN (t i : Int) : Ctr Try.prog 14 #[.pointer none, .int .i64 t, .int .i64 i] [] (fun v' => star (fact (v' = .pointer none) :: [])) false := by
 refine spec_of_at (fn := Try.f14) (c := bd14) (args := [.pointer none, .int .i64 t, .int .i64 i]) (n := 32) (e := [(0, .pointer none), (1, .int .i64 t), (2, .int .i64 i)]) (k := pt14_0) Try.func14 (by kernel_rfl) (by kernel_rfl) (by kernel_rfl) (by kernel_rfl) 300 (by kernel_rfl) ?_
 refine At.region (ops := opt14_0) (m := 1) (k' := kt14_0) (by kernel_rfl) 300 (k'' := pt14_1) (by kernel_rfl) ?_
 refine SOps.pures 1 (i' := 1) (m' := 0) (e' := [(6, .pointer none), (0, .pointer none), (1, .int .i64 t), (2, .int .i64 i)]) (by intro u; kernel_rfl) ?_
 refine SOps.nil (.inl rfl) ?_
 refine At.pick [0, 1, 2] (e' := [(0, .pointer none), (1, .int .i64 t), (2, .int .i64 i)]) (by kernel_rfl) ?_
 refine At.region (ops := opt14_1) (m := 10) (k' := kt14_2) (by kernel_rfl) 300 (k'' := pt14_2) (by kernel_rfl) ?_
 refine SOps.pures 10 (i' := 10) (m' := 0) (e' := [(16, .bool true), (15, .tuple #[]), (14, .tuple #[]), (13, .bool true), (12, .bool true), (11, .tuple #[]), (10, .tuple #[]), (9, .bool true), (8, .bool true), (7, .pointer none), (0, .pointer none), (1, .int .i64 t), (2, .int .i64 i)]) (by intro u; kernel_rfl) ?_
 refine SOps.nil (.inl rfl) ?_
 refine At.pick [0, 1, 2, 16] (e' := [(0, .pointer none), (1, .int .i64 t), (2, .int .i64 i), (16, .bool true)]) (by kernel_rfl) ?_
 refine At.cond 300 true (c := .tmp 16) (k1 := pt14_3) (k2 := pt14_4) (by kernel_rfl) (by intro u; kernel_rfl) (fun _ => ?_) (fun h => by cases h)
 refine At.pick [] (e' := []) (by kernel_rfl) ?_
 refine At.region (ops := opt14_3) (m := 1) (k' := kt14_3) (by kernel_rfl) 300 (k'' := pt14_5) (by kernel_rfl) ?_
 refine SOps.pures 1 (i' := 1) (m' := 0) (e' := [(6, .pointer none)]) (by intro u; kernel_rfl) ?_
 refine SOps.nil (.inl rfl) ?_
 refine At.ret1 (fn := Try.f14) (v := .pointer none) (t := 6) (by kernel_rfl) Try.func14 (by kernel_rfl) (by kernel_rfl) (fun F w ho => ?_)
 exact shutV (rfl) [] rfl ho
theorem atM (d : Nat) (s : De) (t i : Int) (h0 : 0 ≤ i) (h1 : i < 256) : Ctr Try.prog 14 #[.pointer (some ⟨d, 0, none⟩), .int .i64 t, .int .i64 i] [DeskC d s] (fun v' => star (fact (v' = .pointer (some ⟨d, 2 + i.toNat * 3, none⟩)) :: [DeskC d (s.tick t)])) false := by
 have hi2 : i.toNat < 256 := by omega
 refine spec_of_at (fn := Try.f14) (c := bd14) (args := [.pointer (some ⟨d, 0, none⟩), .int .i64 t, .int .i64 i]) (n := 32) (e := [(0, .pointer (some ⟨d, 0, none⟩)), (1, .int .i64 t), (2, .int .i64 i)]) (k := pt14_0) Try.func14 (by kernel_rfl) (by kernel_rfl) (by kernel_rfl) (by kernel_rfl) 300 (by kernel_rfl) ?_
 refine At.region (ops := opt14_0) (m := 1) (k' := kt14_0) (by kernel_rfl) 300 (k'' := pt14_1) (by kernel_rfl) ?_
 refine SOps.pures 1 (i' := 1) (m' := 0) (e' := [(6, .pointer none), (0, .pointer (some ⟨d, 0, none⟩)), (1, .int .i64 t), (2, .int .i64 i)]) (by intro u; kernel_rfl) ?_
 refine SOps.nil (.inl rfl) ?_
 refine At.pick [0, 1, 2] (e' := [(0, .pointer (some ⟨d, 0, none⟩)), (1, .int .i64 t), (2, .int .i64 i)]) (by kernel_rfl) ?_
 refine At.region (ops := opt14_1) (m := 10) (k' := kt14_2) (by kernel_rfl) 300 (k'' := pt14_2) (by kernel_rfl) ?_
 refine SOps.pures 7 (i' := 7) (m' := 3) (e' := [(13, .bool (decide (i < 0))), (12, .bool (decide (i < 0))), (11, .bool (decide (i < 0))), (10, .int .i64 i), (9, .bool false), (8, .bool false), (7, .pointer (some ⟨d, 0, none⟩)), (0, .pointer (some ⟨d, 0, none⟩)), (1, .int .i64 t), (2, .int .i64 i)]) (by intro u; kernel_rfl) ?_
 refine SOps.split (fun zq => [(13, .bool zq), (12, .bool zq), (11, .bool zq), (10, .int .i64 i), (9, .bool false), (8, .bool false), (7, .pointer (some ⟨d, 0, none⟩)), (0, .pointer (some ⟨d, 0, none⟩)), (1, .int .i64 t), (2, .int .i64 i)]) (decide (i < 0)) (fun hx1 => ?_) (fun hx1 => ?_)
 ·have hx1 : i < 0 := by simpa using hx1
  exact absurd hx1 (by omega)
 ·have hx1 : i ≥ 0 := by simpa using hx1
  refine SOps.pures 3 (i' := 10) (m' := 0) (e' := [(16, .bool (decide (i ≥ 256))), (15, .bool (decide (i ≥ 256))), (14, .int .i64 i), (13, .bool false), (12, .bool false), (11, .bool false), (10, .int .i64 i), (9, .bool false), (8, .bool false), (7, .pointer (some ⟨d, 0, none⟩)), (0, .pointer (some ⟨d, 0, none⟩)), (1, .int .i64 t), (2, .int .i64 i)]) (by intro u; kernel_rfl) ?_
  refine SOps.nil (.inl rfl) ?_
  refine At.pick [0, 1, 2, 16] (e' := [(0, .pointer (some ⟨d, 0, none⟩)), (1, .int .i64 t), (2, .int .i64 i), (16, .bool (decide (i ≥ 256)))]) (by kernel_rfl) ?_
  refine At.split (fun zq => [(0, .pointer (some ⟨d, 0, none⟩)), (1, .int .i64 t), (2, .int .i64 i), (16, .bool zq)]) (decide (i ≥ 256)) (fun hx2 => ?_) (fun hx2 => ?_)
  ·have hx2 : i ≥ 256 := by simpa using hx2
   exact absurd hx2 (by omega)
  ·have hx2 : i < 256 := by simpa using hx2
   refine At.cond 300 false (c := .tmp 16) (k1 := pt14_3) (k2 := pt14_4) (by kernel_rfl) (by intro u; kernel_rfl) (fun h => by cases h) (fun _ => ?_)
   refine At.pick [0, 1, 2] (e' := [(0, .pointer (some ⟨d, 0, none⟩)), (1, .int .i64 t), (2, .int .i64 i)]) (by kernel_rfl) ?_
   refine At.game [0] 10 (L := #[false, false, false, false, false, false, false, false, false, false, false]) (ops := opt14_4) (m := 11) (k' := kt14_4) (by kernel_rfl) 300 (k'' := pt14_6) (by kernel_rfl) (by kernel_rfl) rfl (H := [DeskC d s]) (E := []) rfl ?_
   refine GOps.pures [0, 1, 2, 3, 5] (L' := #[true, true, true, true, false, true, false, false, false, false, false]) (m' := 6) (e' := [(22, .int .i64 t), (20, .pointer (some ⟨d, 1, none⟩)), (19, .pointer (some ⟨d, 0, none⟩)), (18, .pointer (some ⟨d, 0, none⟩)), (17, .pointer (some ⟨d, 0, none⟩)), (0, .pointer (some ⟨d, 0, none⟩)), (1, .int .i64 t), (2, .int .i64 i)]) (by kernel_rfl) (by intro u; kernel_rfl) ?_
   refine GOps.v 4 (Val.ld1 0 21 3 d 1 (.int .i64 s.now) rfl (by intro u; kernel_rfl) (by kernel_rfl) Rd.now) (by kernel_rfl) (by kernel_rfl) (by kernel_rfl) (by kernel_rfl) (L' := #[true, true, true, true, true, true, false, false, false, false, false]) rfl ?_
   refine GOps.one 6 (by kernel_rfl) (GStep.o 6 (L' := #[true, true, true, true, true, true, true, false, false, false, false]) rfl (Op.callS 23 19 #[.int .i64 t] (.int .i64 (clampI t)) [] (B := []) (D := []) (by intro u; kernel_rfl) (clampF t) (by first | exact .inr rfl | exact .inl rfl) (by kernel_rfl) ?_))
   refine GOps.v 7 (Val.pe 24 (.int .i64 (if s.now < (clampI t) then (clampI t) else s.now)) (.int .i64 (max s.now (clampI t))) (by intro u; kernel_rfl) (int_max _ _ _)) (by kernel_rfl) (by kernel_rfl) (by kernel_rfl) (by kernel_rfl) (L' := #[true, true, true, true, true, true, true, true, false, false, false]) rfl ?_
   refine GOps.pures [8, 9] (L' := #[true, true, true, true, true, true, true, true, true, true, false]) (m' := 1) (e' := [(26, .pointer (some ⟨d, 1, none⟩)), (25, .pointer (some ⟨d, 0, none⟩)), (24, .int .i64 (max s.now (clampI t))), (23, .int .i64 (clampI t)), (21, .int .i64 s.now), (22, .int .i64 t), (20, .pointer (some ⟨d, 1, none⟩)), (19, .pointer (some ⟨d, 0, none⟩)), (18, .pointer (some ⟨d, 0, none⟩)), (17, .pointer (some ⟨d, 0, none⟩)), (0, .pointer (some ⟨d, 0, none⟩)), (1, .int .i64 t), (2, .int .i64 i)]) (by kernel_rfl) (by intro u; kernel_rfl) ?_
   refine GOps.one 10 (by kernel_rfl) (GStep.d (L' := #[true, true, true, true, true, true, true, true, true, true, true]) rfl rfl (Op.st 0 3 d 1 (.int .i64 (max s.now (clampI t))) [.int .i64 (max s.now (clampI t))] 1 (B' := DeskC d (s.tick t)) (A' := [DeskC d (s.tick t)]) rfl (by intro u; kernel_rfl) rfl (by kernel_rfl) rfl rfl (Wr.now ((max s.now (clampI t)))) rfl ?_))
   refine GOps.nil (by kernel_rfl) ?_
   refine At.pick [0, 2] (e' := [(0, .pointer (some ⟨d, 0, none⟩)), (2, .int .i64 i)]) (by kernel_rfl) ?_
   refine At.region (ops := opt14_6) (m := 6) (k' := kt14_5) (by kernel_rfl) 300 (k'' := pt14_7) (by kernel_rfl) ?_
   refine SOps.pures 4 (i' := 4) (m' := 2) (e' := [(30, .pointer (some ⟨d, 2, none⟩)), (29, .pointer (some ⟨d, 0, none⟩)), (28, .int .i64 i), (27, .pointer (some ⟨d, 0, none⟩)), (0, .pointer (some ⟨d, 0, none⟩)), (2, .int .i64 i)]) (by intro u; kernel_rfl) ?_
   refine SOps.v (Val.pv 31 (vN (Instr.indexAt 48 (.pointer (some ⟨d, 2, none⟩)) (.int .i64 i))) (.pointer (some ⟨d, 2 + i.toNat * 3, none⟩)) (by intro u; kernel_rfl) (pv_indexA (el := 27) (sz := 3) (by kernel_rfl) (by kernel_rfl) (by omega) (by omega) (by omega))) ?_
   refine SOps.pures 1 (i' := 6) (m' := 0) (e' := [(6, .pointer (some ⟨d, 2 + i.toNat * 3, none⟩)), (31, .pointer (some ⟨d, 2 + i.toNat * 3, none⟩)), (30, .pointer (some ⟨d, 2, none⟩)), (29, .pointer (some ⟨d, 0, none⟩)), (28, .int .i64 i), (27, .pointer (some ⟨d, 0, none⟩)), (0, .pointer (some ⟨d, 0, none⟩)), (2, .int .i64 i)]) (by intro u; kernel_rfl) ?_
   refine SOps.nil (.inl rfl) ?_
   refine At.pick [6] (e' := [(6, .pointer (some ⟨d, 2 + i.toNat * 3, none⟩))]) (by kernel_rfl) ?_
   refine At.ret1 (fn := Try.f14) (v := .pointer (some ⟨d, 2 + i.toNat * 3, none⟩)) (t := 6) (by kernel_rfl) Try.func14 (by kernel_rfl) (by kernel_rfl) (fun F w ho => ?_)
   exact shutV (rfl) [0] rfl ho
theorem atB1 (d : Nat) (s : De) (t i : Int) (hi : i < 0) : Ctr Try.prog 14 #[.pointer (some ⟨d, 0, none⟩), .int .i64 t, .int .i64 i] [DeskC d s] (fun v' => star (fact (v' = .pointer none) :: [DeskC d s])) false := by
 refine spec_of_at (fn := Try.f14) (c := bd14) (args := [.pointer (some ⟨d, 0, none⟩), .int .i64 t, .int .i64 i]) (n := 32) (e := [(0, .pointer (some ⟨d, 0, none⟩)), (1, .int .i64 t), (2, .int .i64 i)]) (k := pt14_0) Try.func14 (by kernel_rfl) (by kernel_rfl) (by kernel_rfl) (by kernel_rfl) 300 (by kernel_rfl) ?_
 refine At.region (ops := opt14_0) (m := 1) (k' := kt14_0) (by kernel_rfl) 300 (k'' := pt14_1) (by kernel_rfl) ?_
 refine SOps.pures 1 (i' := 1) (m' := 0) (e' := [(6, .pointer none), (0, .pointer (some ⟨d, 0, none⟩)), (1, .int .i64 t), (2, .int .i64 i)]) (by intro u; kernel_rfl) ?_
 refine SOps.nil (.inl rfl) ?_
 refine At.pick [0, 1, 2] (e' := [(0, .pointer (some ⟨d, 0, none⟩)), (1, .int .i64 t), (2, .int .i64 i)]) (by kernel_rfl) ?_
 refine At.region (ops := opt14_1) (m := 10) (k' := kt14_2) (by kernel_rfl) 300 (k'' := pt14_2) (by kernel_rfl) ?_
 refine SOps.pures 7 (i' := 7) (m' := 3) (e' := [(13, .bool (decide (i < 0))), (12, .bool (decide (i < 0))), (11, .bool (decide (i < 0))), (10, .int .i64 i), (9, .bool false), (8, .bool false), (7, .pointer (some ⟨d, 0, none⟩)), (0, .pointer (some ⟨d, 0, none⟩)), (1, .int .i64 t), (2, .int .i64 i)]) (by intro u; kernel_rfl) ?_
 refine SOps.split (fun zq => [(13, .bool zq), (12, .bool zq), (11, .bool zq), (10, .int .i64 i), (9, .bool false), (8, .bool false), (7, .pointer (some ⟨d, 0, none⟩)), (0, .pointer (some ⟨d, 0, none⟩)), (1, .int .i64 t), (2, .int .i64 i)]) (decide (i < 0)) (fun hx1 => ?_) (fun hx1 => ?_)
 ·have hx1 : i < 0 := by simpa using hx1
  refine SOps.pures 3 (i' := 10) (m' := 0) (e' := [(16, .bool true), (15, .tuple #[]), (14, .tuple #[]), (13, .bool true), (12, .bool true), (11, .bool true), (10, .int .i64 i), (9, .bool false), (8, .bool false), (7, .pointer (some ⟨d, 0, none⟩)), (0, .pointer (some ⟨d, 0, none⟩)), (1, .int .i64 t), (2, .int .i64 i)]) (by intro u; kernel_rfl) ?_
  refine SOps.nil (.inl rfl) ?_
  refine At.pick [0, 1, 2, 16] (e' := [(0, .pointer (some ⟨d, 0, none⟩)), (1, .int .i64 t), (2, .int .i64 i), (16, .bool true)]) (by kernel_rfl) ?_
  refine At.cond 300 true (c := .tmp 16) (k1 := pt14_3) (k2 := pt14_4) (by kernel_rfl) (by intro u; kernel_rfl) (fun _ => ?_) (fun h => by cases h)
  refine At.pick [] (e' := []) (by kernel_rfl) ?_
  refine At.region (ops := opt14_3) (m := 1) (k' := kt14_3) (by kernel_rfl) 300 (k'' := pt14_5) (by kernel_rfl) ?_
  refine SOps.pures 1 (i' := 1) (m' := 0) (e' := [(6, .pointer none)]) (by intro u; kernel_rfl) ?_
  refine SOps.nil (.inl rfl) ?_
  refine At.ret1 (fn := Try.f14) (v := .pointer none) (t := 6) (by kernel_rfl) Try.func14 (by kernel_rfl) (by kernel_rfl) (fun F w ho => ?_)
  exact shutV (rfl) [0] rfl ho
 ·have hx1 : i ≥ 0 := by simpa using hx1
  exact absurd hx1 (by omega)
theorem atB2 (d : Nat) (s : De) (t i : Int) (hi : 256 ≤ i) : Ctr Try.prog 14 #[.pointer (some ⟨d, 0, none⟩), .int .i64 t, .int .i64 i] [DeskC d s] (fun v' => star (fact (v' = .pointer none) :: [DeskC d s])) false := by
 refine spec_of_at (fn := Try.f14) (c := bd14) (args := [.pointer (some ⟨d, 0, none⟩), .int .i64 t, .int .i64 i]) (n := 32) (e := [(0, .pointer (some ⟨d, 0, none⟩)), (1, .int .i64 t), (2, .int .i64 i)]) (k := pt14_0) Try.func14 (by kernel_rfl) (by kernel_rfl) (by kernel_rfl) (by kernel_rfl) 300 (by kernel_rfl) ?_
 refine At.region (ops := opt14_0) (m := 1) (k' := kt14_0) (by kernel_rfl) 300 (k'' := pt14_1) (by kernel_rfl) ?_
 refine SOps.pures 1 (i' := 1) (m' := 0) (e' := [(6, .pointer none), (0, .pointer (some ⟨d, 0, none⟩)), (1, .int .i64 t), (2, .int .i64 i)]) (by intro u; kernel_rfl) ?_
 refine SOps.nil (.inl rfl) ?_
 refine At.pick [0, 1, 2] (e' := [(0, .pointer (some ⟨d, 0, none⟩)), (1, .int .i64 t), (2, .int .i64 i)]) (by kernel_rfl) ?_
 refine At.region (ops := opt14_1) (m := 10) (k' := kt14_2) (by kernel_rfl) 300 (k'' := pt14_2) (by kernel_rfl) ?_
 refine SOps.pures 7 (i' := 7) (m' := 3) (e' := [(13, .bool (decide (i < 0))), (12, .bool (decide (i < 0))), (11, .bool (decide (i < 0))), (10, .int .i64 i), (9, .bool false), (8, .bool false), (7, .pointer (some ⟨d, 0, none⟩)), (0, .pointer (some ⟨d, 0, none⟩)), (1, .int .i64 t), (2, .int .i64 i)]) (by intro u; kernel_rfl) ?_
 refine SOps.split (fun zq => [(13, .bool zq), (12, .bool zq), (11, .bool zq), (10, .int .i64 i), (9, .bool false), (8, .bool false), (7, .pointer (some ⟨d, 0, none⟩)), (0, .pointer (some ⟨d, 0, none⟩)), (1, .int .i64 t), (2, .int .i64 i)]) (decide (i < 0)) (fun hx1 => ?_) (fun hx1 => ?_)
 ·have hx1 : i < 0 := by simpa using hx1
  exact absurd hx1 (by omega)
 ·have hx1 : i ≥ 0 := by simpa using hx1
  refine SOps.pures 3 (i' := 10) (m' := 0) (e' := [(16, .bool (decide (i ≥ 256))), (15, .bool (decide (i ≥ 256))), (14, .int .i64 i), (13, .bool false), (12, .bool false), (11, .bool false), (10, .int .i64 i), (9, .bool false), (8, .bool false), (7, .pointer (some ⟨d, 0, none⟩)), (0, .pointer (some ⟨d, 0, none⟩)), (1, .int .i64 t), (2, .int .i64 i)]) (by intro u; kernel_rfl) ?_
  refine SOps.nil (.inl rfl) ?_
  refine At.pick [0, 1, 2, 16] (e' := [(0, .pointer (some ⟨d, 0, none⟩)), (1, .int .i64 t), (2, .int .i64 i), (16, .bool (decide (i ≥ 256)))]) (by kernel_rfl) ?_
  refine At.split (fun zq => [(0, .pointer (some ⟨d, 0, none⟩)), (1, .int .i64 t), (2, .int .i64 i), (16, .bool zq)]) (decide (i ≥ 256)) (fun hx2 => ?_) (fun hx2 => ?_)
  ·have hx2 : i ≥ 256 := by simpa using hx2
   refine At.cond 300 true (c := .tmp 16) (k1 := pt14_3) (k2 := pt14_4) (by kernel_rfl) (by intro u; kernel_rfl) (fun _ => ?_) (fun h => by cases h)
   refine At.pick [] (e' := []) (by kernel_rfl) ?_
   refine At.region (ops := opt14_3) (m := 1) (k' := kt14_3) (by kernel_rfl) 300 (k'' := pt14_5) (by kernel_rfl) ?_
   refine SOps.pures 1 (i' := 1) (m' := 0) (e' := [(6, .pointer none)]) (by intro u; kernel_rfl) ?_
   refine SOps.nil (.inl rfl) ?_
   refine At.ret1 (fn := Try.f14) (v := .pointer none) (t := 6) (by kernel_rfl) Try.func14 (by kernel_rfl) (by kernel_rfl) (fun F w ho => ?_)
   exact shutV (rfl) [0] rfl ho
  ·have hx2 : i < 256 := by simpa using hx2
   exact absurd hx2 (by omega)
theorem atB (d : Nat) (s : De) (t i : Int) (hi : i < 0 ∨ 256 ≤ i) : Ctr Try.prog 14 #[.pointer (some ⟨d, 0, none⟩), .int .i64 t, .int .i64 i] [DeskC d s] (fun v' => star (fact (v' = .pointer none) :: [DeskC d s])) false := hi.elim (atB1 d s t i) (atB2 d s t i)
noncomputable def bd15 : Code := (Try.f15.body).getD .skip
noncomputable def kt15_0 : List Item := .code (pick [1] bd15) :: []
noncomputable def pt15_0 : List Item := .code (pick [0] bd15) :: kt15_0
noncomputable def opt15_0 : Array Oper := opsOf (pick [0] bd15)
noncomputable def kt15_1 : List Item := .code (pick [1, 1] bd15) :: []
noncomputable def pt15_1 : List Item := .code (pick [1, 0] bd15) :: kt15_1
noncomputable def opt15_1 : Array Oper := opsOf (pick [1, 0] bd15)
noncomputable def pt15_2 : List Item := .code (pick [1, 1] bd15) :: []
theorem heldM (d : Nat) (s : De) (i : Int) (h0 : 0 ≤ i) (h1 : i < 256) : Ctr Try.prog 15 #[.pointer (some ⟨d, 0, none⟩), .int .i64 i] [DeskC d s] (fun v' => star (fact (v' = .bool (s.held i.toNat)) :: [DeskC d s])) false := by
 have hi2 : i.toNat < 256 := by omega
 refine spec_of_at (fn := Try.f15) (c := bd15) (args := [.pointer (some ⟨d, 0, none⟩), .int .i64 i]) (n := 26) (e := [(0, .pointer (some ⟨d, 0, none⟩)), (1, .int .i64 i)]) (k := pt15_0) Try.func15 (by kernel_rfl) (by kernel_rfl) (by kernel_rfl) (by kernel_rfl) 300 (by kernel_rfl) ?_
 refine At.region (ops := opt15_0) (m := 1) (k' := kt15_0) (by kernel_rfl) 300 (k'' := pt15_1) (by kernel_rfl) ?_
 refine SOps.pures 1 (i' := 1) (m' := 0) (e' := [(4, .bool false), (0, .pointer (some ⟨d, 0, none⟩)), (1, .int .i64 i)]) (by intro u; kernel_rfl) ?_
 refine SOps.nil (.inl rfl) ?_
 refine At.pick [0, 1] (e' := [(0, .pointer (some ⟨d, 0, none⟩)), (1, .int .i64 i)]) (by kernel_rfl) ?_
 refine At.regionQ (ops := opt15_1) (m := 22) (k' := kt15_1) (by kernel_rfl) 300 (k'' := pt15_2) (by kernel_rfl) (by kernel_rfl) (by kernel_rfl) ?_
 refine SOps.pures 4 (i' := 4) (m' := 18) (e' := [(8, .pointer (some ⟨d, 770, none⟩)), (7, .pointer (some ⟨d, 0, none⟩)), (6, .int .i64 i), (5, .pointer (some ⟨d, 0, none⟩)), (0, .pointer (some ⟨d, 0, none⟩)), (1, .int .i64 i)]) (by intro u; kernel_rfl) ?_
 refine SOps.v (Val.pv 9 (vN (Instr.indexAt 49 (.pointer (some ⟨d, 770, none⟩)) (.int .i64 i))) (.pointer (some ⟨d, 770 + i.toNat, none⟩)) (by intro u; kernel_rfl) (pv_indexA (el := 4) (sz := 1) (by kernel_rfl) (by kernel_rfl) (by omega) (by omega) (by omega))) ?_
 refine SOps.v (Val.ld1 0 10 4 d (770 + i.toNat) (.bool ((s.th i.toNat).given)) rfl (by intro u; kernel_rfl) (by kernel_rfl) (Rd.given (k := i.toNat) (by omega))) ?_
 refine SOps.pures 2 (i' := 8) (m' := 14) (e' := [(12, .bool (!((s.th i.toNat).given))), (11, .bool (!((s.th i.toNat).given))), (10, .bool ((s.th i.toNat).given)), (9, .pointer (some ⟨d, 770 + i.toNat, none⟩)), (8, .pointer (some ⟨d, 770, none⟩)), (7, .pointer (some ⟨d, 0, none⟩)), (6, .int .i64 i), (5, .pointer (some ⟨d, 0, none⟩)), (0, .pointer (some ⟨d, 0, none⟩)), (1, .int .i64 i)]) (by intro u; kernel_rfl) ?_
 refine SOps.split (fun zq => [(12, .bool zq), (11, .bool zq), (10, .bool ((s.th i.toNat).given)), (9, .pointer (some ⟨d, 770 + i.toNat, none⟩)), (8, .pointer (some ⟨d, 770, none⟩)), (7, .pointer (some ⟨d, 0, none⟩)), (6, .int .i64 i), (5, .pointer (some ⟨d, 0, none⟩)), (0, .pointer (some ⟨d, 0, none⟩)), (1, .int .i64 i)]) (!((s.th i.toNat).given)) (fun hx1 => ?_) (fun hx1 => ?_)
 ·have hx1 : (s.th i.toNat).given = false := by simpa using hx1
  refine SOps.pures 4 (i' := 12) (m' := 10) (e' := [(16, .pointer (some ⟨d, 2, none⟩)), (15, .pointer (some ⟨d, 0, none⟩)), (14, .int .i64 i), (13, .pointer (some ⟨d, 0, none⟩)), (12, .bool true), (11, .bool true), (10, .bool ((s.th i.toNat).given)), (9, .pointer (some ⟨d, 770 + i.toNat, none⟩)), (8, .pointer (some ⟨d, 770, none⟩)), (7, .pointer (some ⟨d, 0, none⟩)), (6, .int .i64 i), (5, .pointer (some ⟨d, 0, none⟩)), (0, .pointer (some ⟨d, 0, none⟩)), (1, .int .i64 i)]) (by intro u; kernel_rfl) ?_
  refine SOps.v (Val.pv 17 (vN (Instr.indexAt 48 (.pointer (some ⟨d, 2, none⟩)) (.int .i64 i))) (.pointer (some ⟨d, 2 + i.toNat * 3, none⟩)) (by intro u; kernel_rfl) (pv_indexA (el := 27) (sz := 3) (by kernel_rfl) (by kernel_rfl) (by omega) (by omega) (by omega))) ?_
  refine SOps.pures 1 (i' := 14) (m' := 8) (e' := [(18, .pointer (some ⟨d, 2 + i.toNat * 3 + 2, none⟩)), (17, .pointer (some ⟨d, 2 + i.toNat * 3, none⟩)), (16, .pointer (some ⟨d, 2, none⟩)), (15, .pointer (some ⟨d, 0, none⟩)), (14, .int .i64 i), (13, .pointer (some ⟨d, 0, none⟩)), (12, .bool true), (11, .bool true), (10, .bool ((s.th i.toNat).given)), (9, .pointer (some ⟨d, 770 + i.toNat, none⟩)), (8, .pointer (some ⟨d, 770, none⟩)), (7, .pointer (some ⟨d, 0, none⟩)), (6, .int .i64 i), (5, .pointer (some ⟨d, 0, none⟩)), (0, .pointer (some ⟨d, 0, none⟩)), (1, .int .i64 i)]) (by intro u; kernel_rfl) ?_
  refine SOps.v (Val.ld1 0 19 3 d (2 + i.toNat * 3 + 2) (.int .i64 ((s.th i.toNat).fin)) rfl (by intro u; kernel_rfl) (by kernel_rfl) (Rd.fin (k := i.toNat) (by omega))) ?_
  refine SOps.pures 3 (i' := 18) (m' := 4) (e' := [(22, .pointer (some ⟨d, 1, none⟩)), (21, .pointer (some ⟨d, 0, none⟩)), (20, .pointer (some ⟨d, 0, none⟩)), (19, .int .i64 ((s.th i.toNat).fin)), (18, .pointer (some ⟨d, 2 + i.toNat * 3 + 2, none⟩)), (17, .pointer (some ⟨d, 2 + i.toNat * 3, none⟩)), (16, .pointer (some ⟨d, 2, none⟩)), (15, .pointer (some ⟨d, 0, none⟩)), (14, .int .i64 i), (13, .pointer (some ⟨d, 0, none⟩)), (12, .bool true), (11, .bool true), (10, .bool ((s.th i.toNat).given)), (9, .pointer (some ⟨d, 770 + i.toNat, none⟩)), (8, .pointer (some ⟨d, 770, none⟩)), (7, .pointer (some ⟨d, 0, none⟩)), (6, .int .i64 i), (5, .pointer (some ⟨d, 0, none⟩)), (0, .pointer (some ⟨d, 0, none⟩)), (1, .int .i64 i)]) (by intro u; kernel_rfl) ?_
  refine SOps.v (Val.ld1 0 23 3 d 1 (.int .i64 s.now) rfl (by intro u; kernel_rfl) (by kernel_rfl) Rd.now) ?_
  refine SOps.pures 3 (i' := 22) (m' := 0) (e' := [(4, .bool (decide (((s.th i.toNat).fin) > s.now))), (25, .bool (decide (((s.th i.toNat).fin) > s.now))), (24, .bool (decide (((s.th i.toNat).fin) > s.now))), (23, .int .i64 s.now), (22, .pointer (some ⟨d, 1, none⟩)), (21, .pointer (some ⟨d, 0, none⟩)), (20, .pointer (some ⟨d, 0, none⟩)), (19, .int .i64 ((s.th i.toNat).fin)), (18, .pointer (some ⟨d, 2 + i.toNat * 3 + 2, none⟩)), (17, .pointer (some ⟨d, 2 + i.toNat * 3, none⟩)), (16, .pointer (some ⟨d, 2, none⟩)), (15, .pointer (some ⟨d, 0, none⟩)), (14, .int .i64 i), (13, .pointer (some ⟨d, 0, none⟩)), (12, .bool true), (11, .bool true), (10, .bool ((s.th i.toNat).given)), (9, .pointer (some ⟨d, 770 + i.toNat, none⟩)), (8, .pointer (some ⟨d, 770, none⟩)), (7, .pointer (some ⟨d, 0, none⟩)), (6, .int .i64 i), (5, .pointer (some ⟨d, 0, none⟩)), (0, .pointer (some ⟨d, 0, none⟩)), (1, .int .i64 i)]) (by intro u; kernel_rfl) ?_
  refine SOps.nil (.inr (by kernel_rfl)) ?_
  refine At.pick [4] (e' := [(4, .bool (decide (((s.th i.toNat).fin) > s.now)))]) (by kernel_rfl) ?_
  refine At.ret1 (fn := Try.f15) (v := .bool (decide (((s.th i.toNat).fin) > s.now))) (t := 4) (by kernel_rfl) Try.func15 (by kernel_rfl) (by kernel_rfl) (fun F w ho => ?_)
  exact shutV (by congr 1; unfold De.held; simp [*]) [0] rfl ho
 ·have hx1 : (s.th i.toNat).given = true := by simpa using hx1
  refine SOps.pures 14 (i' := 22) (m' := 0) (e' := [(4, .bool false), (25, .bool false), (24, .tuple #[]), (23, .tuple #[]), (22, .tuple #[]), (21, .tuple #[]), (20, .tuple #[]), (19, .tuple #[]), (18, .tuple #[]), (17, .tuple #[]), (16, .tuple #[]), (15, .tuple #[]), (14, .tuple #[]), (13, .tuple #[]), (12, .bool false), (11, .bool false), (10, .bool ((s.th i.toNat).given)), (9, .pointer (some ⟨d, 770 + i.toNat, none⟩)), (8, .pointer (some ⟨d, 770, none⟩)), (7, .pointer (some ⟨d, 0, none⟩)), (6, .int .i64 i), (5, .pointer (some ⟨d, 0, none⟩)), (0, .pointer (some ⟨d, 0, none⟩)), (1, .int .i64 i)]) (by intro u; kernel_rfl) ?_
  refine SOps.nil (.inr (by kernel_rfl)) ?_
  refine At.pick [4] (e' := [(4, .bool false)]) (by kernel_rfl) ?_
  refine At.ret1 (fn := Try.f15) (v := .bool false) (t := 4) (by kernel_rfl) Try.func15 (by kernel_rfl) (by kernel_rfl) (fun F w ho => ?_)
  exact shutV (by congr 1; unfold De.held; simp [*]) [0] rfl ho
end Go.Proofs.Le
