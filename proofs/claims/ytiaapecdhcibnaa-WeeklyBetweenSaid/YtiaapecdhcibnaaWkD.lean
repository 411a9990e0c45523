/- Weekly: a set: an alarm comes, goes, is switched. -/
import Derived.Test.YtiaapecdhcibnaaWkC
namespace Go.Proofs.Wk
open Go Go.Sp Go.Wk
set_option linter.unusedVariables false
set_option linter.unusedSimpArgs false
set_option linter.unnecessarySimpa false
set_option maxRecDepth 100000
noncomputable def bd21 : Code := (Try.f21.body).getD .skip
noncomputable def kt21_0 : List Item := .code (pick [1] bd21) :: []
noncomputable def pt21_0 : List Item := .code (pick [0] bd21) :: kt21_0
noncomputable def opt21_0 : Array Oper := opsOf (pick [0] bd21)
noncomputable def kt21_1 : List Item := .code (pick [1, 1] bd21) :: []
noncomputable def kt21_2 : List Item := .code (pick [1, 0, 1] bd21) :: kt21_1
noncomputable def pt21_1 : List Item := .code (pick [1, 0, 0] bd21) :: kt21_2
noncomputable def opt21_1 : Array Oper := opsOf (pick [1, 0, 0] bd21)
noncomputable def pt21_2 : List Item := .code (pick [1, 0, 1] bd21) :: kt21_1
noncomputable def kt21_3 : List Item := .code (pick [1, 0, 1, 0, 1] bd21) :: kt21_1
noncomputable def pt21_3 : List Item := .code (pick [1, 0, 1, 0, 0] bd21) :: kt21_3
noncomputable def opt21_3 : Array Oper := opsOf (pick [1, 0, 1, 0, 0] bd21)
noncomputable def kt21_4 : List Item := .code (pick [1, 1, 1] bd21) :: []
noncomputable def pt21_4 : List Item := .code (pick [1, 1, 0] bd21) :: kt21_4
noncomputable def opt21_4 : Array Oper := opsOf (pick [1, 1, 0] bd21)
noncomputable def pt21_5 : List Item := .code (pick [1, 0, 1, 0, 1] bd21) :: kt21_1
noncomputable def pt21_6 : List Item := .code (pick [1, 1, 1] bd21) :: []
theorem placeN (t : Int) : Ctr Try.prog 21 #[.pointer none, .int .i64 t] [] (fun v' => star (fact (v' = .tuple #[.int .i64 0, .bool false]) :: [])) false := by
 refine spec_of_at (fn := Try.f21) (c := bd21) (args := [.pointer none, .int .i64 t]) (n := 16) (e := [(0, .pointer none), (1, .int .i64 t)]) (k := pt21_0) Try.func21 (by kernel_rfl) (by kernel_rfl) (by kernel_rfl) (by kernel_rfl) 300 (by kernel_rfl) ?_
 refine At.region (ops := opt21_0) (m := 2) (k' := kt21_0) (by kernel_rfl) 300 (k'' := pt21_1) (by kernel_rfl) ?_
 refine SOps.pures 2 (i' := 2) (m' := 0) (e' := [(5, .bool false), (4, .int .i64 0), (0, .pointer none), (1, .int .i64 t)]) (by intro u; kernel_rfl) ?_
 refine SOps.nil (.inl rfl) ?_
 refine At.pick [0, 1] (e' := [(0, .pointer none), (1, .int .i64 t)]) (by kernel_rfl) ?_
 refine At.region (ops := opt21_1) (m := 2) (k' := kt21_2) (by kernel_rfl) 300 (k'' := pt21_2) (by kernel_rfl) ?_
 refine SOps.pures 2 (i' := 2) (m' := 0) (e' := [(7, .bool true), (6, .pointer none), (0, .pointer none), (1, .int .i64 t)]) (by intro u; kernel_rfl) ?_
 refine SOps.nil (.inl rfl) ?_
 refine At.pick [0, 1, 7] (e' := [(0, .pointer none), (1, .int .i64 t), (7, .bool true)]) (by kernel_rfl) ?_
 refine At.cond 300 true (c := .tmp 7) (k1 := pt21_3) (k2 := pt21_4) (by kernel_rfl) (by intro u; kernel_rfl) (fun _ => ?_) (fun h => by cases h)
 refine At.pick [] (e' := []) (by kernel_rfl) ?_
 refine At.region (ops := opt21_3) (m := 2) (k' := kt21_3) (by kernel_rfl) 300 (k'' := pt21_5) (by kernel_rfl) ?_
 refine SOps.pures 2 (i' := 2) (m' := 0) (e' := [(5, .bool false), (4, .int .i64 0)]) (by intro u; kernel_rfl) ?_
 refine SOps.nil (.inl rfl) ?_
 refine At.pick [4, 5] (e' := [(4, .int .i64 0), (5, .bool false)]) (by kernel_rfl) ?_
 refine At.ret2 (fn := Try.f21) (v := .int .i64 0) (u := .bool false) (t := 4) (s := 5) (by kernel_rfl) Try.func21 (by kernel_rfl) (by kernel_rfl) (by kernel_rfl) (fun F w ho => ?_)
 exact shutV rfl [] rfl ho
theorem placeS (s : Nat) (l : List Alarm) (hg : GoodA l) (t : Int) : Ctr Try.prog 21 #[.pointer (some ⟨s, 0, none⟩), .int .i64 t] [SetC s l] (fun v' => star (fact (v' = .tuple #[.int .i64 (posA l t : Int), .bool (hasA l t)]) :: [SetC s l])) false := by
 refine spec_of_at (fn := Try.f21) (c := bd21) (args := [.pointer (some ⟨s, 0, none⟩), .int .i64 t]) (n := 16) (e := [(0, .pointer (some ⟨s, 0, none⟩)), (1, .int .i64 t)]) (k := pt21_0) Try.func21 (by kernel_rfl) (by kernel_rfl) (by kernel_rfl) (by kernel_rfl) 300 (by kernel_rfl) ?_
 have hlen := hg.len
 refine At.conseq (fun F w ho => SetC.open_ ho) (fun x => ?_)
 obtain ⟨S, cap⟩ := x
 refine At.region (ops := opt21_0) (m := 2) (k' := kt21_0) (by kernel_rfl) 300 (k'' := pt21_1) (by kernel_rfl) ?_
 refine SOps.pures 2 (i' := 2) (m' := 0) (e' := [(5, .bool false), (4, .int .i64 0), (0, .pointer (some ⟨s, 0, none⟩)), (1, .int .i64 t)]) (by intro u; kernel_rfl) ?_
 refine SOps.nil (.inl rfl) ?_
 refine At.pick [0, 1] (e' := [(0, .pointer (some ⟨s, 0, none⟩)), (1, .int .i64 t)]) (by kernel_rfl) ?_
 refine At.region (ops := opt21_1) (m := 2) (k' := kt21_2) (by kernel_rfl) 300 (k'' := pt21_2) (by kernel_rfl) ?_
 refine SOps.pures 2 (i' := 2) (m' := 0) (e' := [(7, .bool false), (6, .pointer (some ⟨s, 0, none⟩)), (0, .pointer (some ⟨s, 0, none⟩)), (1, .int .i64 t)]) (by intro u; kernel_rfl) ?_
 refine SOps.nil (.inl rfl) ?_
 refine At.pick [0, 1, 7] (e' := [(0, .pointer (some ⟨s, 0, none⟩)), (1, .int .i64 t), (7, .bool false)]) (by kernel_rfl) ?_
 refine At.cond 300 false (c := .tmp 7) (k1 := pt21_3) (k2 := pt21_4) (by kernel_rfl) (by intro u; kernel_rfl) (fun h => by cases h) (fun _ => ?_)
 refine At.pick [0, 1] (e' := [(0, .pointer (some ⟨s, 0, none⟩)), (1, .int .i64 t)]) (by kernel_rfl) ?_
 refine At.region (ops := opt21_4) (m := 10) (k' := kt21_4) (by kernel_rfl) 300 (k'' := pt21_6) (by kernel_rfl) ?_
 refine SOps.pures 3 (i' := 3) (m' := 7) (e' := [(10, .pointer (some ⟨s, 0, none⟩)), (9, .pointer (some ⟨s, 0, none⟩)), (8, .pointer (some ⟨s, 0, none⟩)), (0, .pointer (some ⟨s, 0, none⟩)), (1, .int .i64 t)]) (by intro u; kernel_rfl) ?_
 refine SOps.v (Val.ld1 0 11 25 s 0 (.slice S l.length cap) rfl (by intro u; kernel_rfl) (by kernel_rfl) (Rd.cells rfl)) ?_
 refine SOps.pures 1 (i' := 5) (m' := 5) (e' := [(12, .int .i64 t), (11, .slice S l.length cap), (10, .pointer (some ⟨s, 0, none⟩)), (9, .pointer (some ⟨s, 0, none⟩)), (8, .pointer (some ⟨s, 0, none⟩)), (0, .pointer (some ⟨s, 0, none⟩)), (1, .int .i64 t)]) (by intro u; kernel_rfl) ?_
 refine SOps.o (Op.callX 13 25 #[.slice S l.length cap, .int .i64 t, .func (.func 26) #[] #[]] _ _ [1] (B := [Grow S cap 30 4 l.length (l.flatMap encA)]) (D := [Cells s 50 [.slice S l.length cap]]) (by intro u; kernel_rfl) (bsearch S l.length cap l rfl (by omega) t hg.sort) (by first | exact .inr rfl | exact .inl rfl) (by kernel_rfl) ?_)
 intro k hk
 refine SOps.pures 4 (i' := 10) (m' := 0) (e' := [(5, .bool (foundA l t k)), (4, .int .i64 (k : Int)), (15, .bool (foundA l t k)), (14, .int .i64 (k : Int)), (13, .tuple #[.int .i64 (k : Int), .bool (foundA l t k)]), (12, .int .i64 t), (11, .slice S l.length cap), (10, .pointer (some ⟨s, 0, none⟩)), (9, .pointer (some ⟨s, 0, none⟩)), (8, .pointer (some ⟨s, 0, none⟩)), (0, .pointer (some ⟨s, 0, none⟩)), (1, .int .i64 t)]) (by intro u; kernel_rfl) ?_
 refine SOps.nil (.inl rfl) ?_
 refine At.pick [4, 5] (e' := [(4, .int .i64 (k : Int)), (5, .bool (foundA l t k))]) (by kernel_rfl) ?_
 refine At.ret2 (fn := Try.f21) (v := .int .i64 (k : Int)) (u := .bool (foundA l t k)) (t := 4) (s := 5) (by kernel_rfl) Try.func21 (by kernel_rfl) (by kernel_rfl) (by kernel_rfl) (fun F w ho => ?_)
 have ho2 := SetC.close (l := l) rfl [1, 0] rfl ho
 exact shutV (by rw [posA_is hk, hasA_is hk hg.sort]) [0] rfl ho2
noncomputable def bd15 : Code := (Try.f15.body).getD .skip
noncomputable def kt15_0 : List Item := .code (pick [1] bd15) :: []
noncomputable def pt15_0 : List Item := .code (pick [0] bd15) :: kt15_0
noncomputable def opt15_0 : Array Oper := opsOf (pick [0] bd15)
noncomputable def kt15_1 : List Item := .code (pick [1, 1] bd15) :: []
noncomputable def pt15_1 : List Item := .code (pick [1, 0] bd15) :: kt15_1
noncomputable def opt15_1 : Array Oper := opsOf (pick [1, 0] bd15)
noncomputable def kt15_2 : List Item := .code (pick [1, 1, 1] bd15) :: []
noncomputable def kt15_3 : List Item := .inBlock 0 :: kt15_2
noncomputable def kt15_4 : List Item := .code (pick [1, 1, 0, 0, 1] bd15) :: kt15_3
noncomputable def pt15_2 : List Item := .code (pick [1, 1, 0, 0, 0] bd15) :: kt15_4
noncomputable def opt15_2 : Array Oper := opsOf (pick [1, 1, 0, 0, 0] bd15)
noncomputable def pt15_3 : List Item := .code (pick [1, 1, 0, 0, 1] bd15) :: kt15_3
noncomputable def kt15_5 : List Item := .code (pick [1, 1, 0, 0, 1, 0, 1] bd15) :: kt15_3
noncomputable def pt15_4 : List Item := .code (pick [1, 1, 0, 0, 1, 0, 0] bd15) :: kt15_5
noncomputable def opt15_4 : Array Oper := opsOf (pick [1, 1, 0, 0, 1, 0, 0] bd15)
noncomputable def kt15_6 : List Item := .code (pick [1, 1, 0, 0, 1, 1, 1] bd15) :: kt15_3
noncomputable def pt15_5 : List Item := .code (pick [1, 1, 0, 0, 1, 1, 0] bd15) :: kt15_6
noncomputable def opt15_5 : Array Oper := opsOf (pick [1, 1, 0, 0, 1, 1, 0] bd15)
noncomputable def pt15_6 : List Item := .code (pick [1, 1, 0, 0, 1, 1, 1] bd15) :: kt15_3
noncomputable def kt15_7 : List Item := .code (pick [1, 1, 0, 0, 1, 1, 1, 0, 1] bd15) :: kt15_3
noncomputable def pt15_7 : List Item := .code (pick [1, 1, 0, 0, 1, 1, 1, 0, 0] bd15) :: kt15_7
noncomputable def opt15_7 : Array Oper := opsOf (pick [1, 1, 0, 0, 1, 1, 1, 0, 0] bd15)
noncomputable def kt15_8 : List Item := .code (pick [1, 1, 0, 0, 1, 1, 1, 1, 1] bd15) :: kt15_3
noncomputable def pt15_8 : List Item := .code (pick [1, 1, 0, 0, 1, 1, 1, 1, 0] bd15) :: kt15_8
noncomputable def opt15_8 : Array Oper := opsOf (pick [1, 1, 0, 0, 1, 1, 1, 1, 0] bd15)
noncomputable def pt15_9 : List Item := .code (pick [1, 1, 0, 0, 1, 1, 1, 0, 1] bd15) :: kt15_3
noncomputable def pt15_10 : List Item := .code (pick [1, 1, 0, 0, 1, 1, 1, 1, 1] bd15) :: kt15_3
noncomputable def kt15_9 : List Item := .code (pick [1, 1, 0, 0, 1, 1, 1, 1, 1, 0, 1] bd15) :: kt15_3
noncomputable def pt15_11 : List Item := .code (pick [1, 1, 0, 0, 1, 1, 1, 1, 1, 0, 0] bd15) :: kt15_9
noncomputable def opt15_11 : Array Oper := opsOf (pick [1, 1, 0, 0, 1, 1, 1, 1, 1, 0, 0] bd15)
noncomputable def kt15_10 : List Item := .code (pick [1, 1, 0, 0, 1, 1, 1, 1, 1, 1, 1] bd15) :: kt15_3
noncomputable def pt15_12 : List Item := .code (pick [1, 1, 0, 0, 1, 1, 1, 1, 1, 1, 0] bd15) :: kt15_10
noncomputable def opt15_12 : Array Oper := opsOf (pick [1, 1, 0, 0, 1, 1, 1, 1, 1, 1, 0] bd15)
noncomputable def pt15_13 : List Item := .code (pick [1, 1, 0, 0, 1, 1, 1, 1, 1, 0, 1] bd15) :: kt15_3
noncomputable def pt15_14 : List Item := .code (pick [1, 1, 0, 0, 1, 1, 1, 1, 1, 1, 1] bd15) :: kt15_3
noncomputable def kt15_11 : List Item := .code (pick [1, 1, 0, 0, 1, 1, 1, 1, 1, 1, 1, 0, 1] bd15) :: kt15_3
noncomputable def pt15_15 : List Item := .code (pick [1, 1, 0, 0, 1, 1, 1, 1, 1, 1, 1, 0, 0] bd15) :: kt15_11
noncomputable def opt15_15 : Array Oper := opsOf (pick [1, 1, 0, 0, 1, 1, 1, 1, 1, 1, 1, 0, 0] bd15)
noncomputable def kt15_12 : List Item := .code (pick [1, 1, 1, 1] bd15) :: []
noncomputable def pt15_16 : List Item := .code (pick [1, 1, 1, 0] bd15) :: kt15_12
noncomputable def opt15_16 : Array Oper := opsOf (pick [1, 1, 1, 0] bd15)
noncomputable def pt15_17 : List Item := .code (pick [1, 1, 0, 0, 1, 1, 1, 1, 1, 1, 1, 0, 1] bd15) :: kt15_3
noncomputable def kt15_13 : List Item := .code (pick [1, 1, 1, 1, 1] bd15) :: []
noncomputable def pt15_18 : List Item := .code (pick [1, 1, 1, 1, 0] bd15) :: kt15_13
noncomputable def opt15_18 : Array Oper := opsOf (pick [1, 1, 1, 1, 0] bd15)
noncomputable def pt15_19 : List Item := .code (pick [1, 1, 1, 1, 1] bd15) :: []
noncomputable def pt15_20 : List Item := .code (pick [1, 1, 0, 0, 1, 0, 1] bd15) :: kt15_3
theorem addS (s : Nat) (l : List Alarm) (hg : GoodA l) (a : Alarm) : Ctr Try.prog 15 #[.pointer (some ⟨s, 0, none⟩), .agg #[.int .i64 a.id, .int .i64 a.minute, .int .i64 a.days, .bool a.off]] [SetC s l] (fun v' => star (fact (v' = .int .i64 (addE l a)) :: [SetC s (addL l a)])) false := by
 refine spec_of_at (fn := Try.f15) (c := bd15) (args := [.pointer (some ⟨s, 0, none⟩), .agg #[.int .i64 a.id, .int .i64 a.minute, .int .i64 a.days, .bool a.off]]) (n := 41) (e := [(0, .pointer (some ⟨s, 0, none⟩)), (1, .agg #[.int .i64 a.id, .int .i64 a.minute, .int .i64 a.days, .bool a.off])]) (k := pt15_0) Try.func15 (by kernel_rfl) (by kernel_rfl) (by kernel_rfl) (by kernel_rfl) 300 (by kernel_rfl) ?_
 have hlen := hg.len
 refine At.region (ops := opt15_0) (m := 2) (k' := kt15_0) (by kernel_rfl) 300 (k'' := pt15_1) (by kernel_rfl) ?_
 refine SOps.o (Op.new 3 30 [.int .i64 a.id, .int .i64 a.minute, .int .i64 a.days, .bool a.off] (fun b => .pointer (some ⟨b, 0, none⟩)) (by intro u b; kernel_rfl) ?_)
 intro bx1
 refine SOps.pures 1 (i' := 2) (m' := 0) (e' := [(4, .int .i64 0), (3, .pointer (some ⟨bx1, 0, none⟩)), (0, .pointer (some ⟨s, 0, none⟩)), (1, .agg #[.int .i64 a.id, .int .i64 a.minute, .int .i64 a.days, .bool a.off])]) (by intro u; kernel_rfl) ?_
 refine SOps.nil (.inl rfl) ?_
 refine At.pick [0, 3] (e' := [(0, .pointer (some ⟨s, 0, none⟩)), (3, .pointer (some ⟨bx1, 0, none⟩))]) (by kernel_rfl) ?_
 refine At.region (ops := opt15_1) (m := 9) (k' := kt15_1) (by kernel_rfl) 300 (k'' := pt15_2) (by kernel_rfl) ?_
 refine SOps.pures 2 (i' := 2) (m' := 7) (e' := [(9, .pointer (some ⟨bx1, 0, none⟩)), (8, .pointer (some ⟨s, 0, none⟩)), (0, .pointer (some ⟨s, 0, none⟩)), (3, .pointer (some ⟨bx1, 0, none⟩))]) (by intro u; kernel_rfl) ?_
 refine SOps.v (Val.ld1 0 10 3 bx1 0 (.int .i64 a.id) rfl (by intro u; kernel_rfl) (by kernel_rfl) (Rd.cells rfl)) ?_
 refine SOps.o (Op.callS 11 21 #[.pointer (some ⟨s, 0, none⟩), .int .i64 a.id] (.tuple #[.int .i64 ((posA l a.id : Nat) : Int), .bool (hasA l a.id)]) [1] (B := [SetC s l]) (D := [Cells bx1 30 [.int .i64 a.id, .int .i64 a.minute, .int .i64 a.days, .bool a.off]]) (by intro u; kernel_rfl) (placeS s l hg a.id) (by first | exact .inr rfl | exact .inl rfl) (by kernel_rfl) ?_)
 refine SOps.pures 5 (i' := 9) (m' := 0) (e' := [(6, .bool (hasA l a.id)), (5, .int .i64 ((posA l a.id : Nat) : Int)), (13, .bool (hasA l a.id)), (12, .int .i64 ((posA l a.id : Nat) : Int)), (7, .tuple #[.int .i64 ((posA l a.id : Nat) : Int), .bool (hasA l a.id)]), (11, .tuple #[.int .i64 ((posA l a.id : Nat) : Int), .bool (hasA l a.id)]), (10, .int .i64 a.id), (9, .pointer (some ⟨bx1, 0, none⟩)), (8, .pointer (some ⟨s, 0, none⟩)), (0, .pointer (some ⟨s, 0, none⟩)), (3, .pointer (some ⟨bx1, 0, none⟩))]) (by intro u; kernel_rfl) ?_
 refine SOps.nil (.inl rfl) ?_
 refine At.pick [0, 3, 5, 6] (e' := [(0, .pointer (some ⟨s, 0, none⟩)), (3, .pointer (some ⟨bx1, 0, none⟩)), (5, .int .i64 ((posA l a.id : Nat) : Int)), (6, .bool (hasA l a.id))]) (by kernel_rfl) ?_
 refine At.region (ops := opt15_2) (m := 3) (k' := kt15_4) (by kernel_rfl) 300 (k'' := pt15_3) (by kernel_rfl) ?_
 refine SOps.pures 3 (i' := 3) (m' := 0) (e' := [(14, .bool false), (16, .bool false), (15, .pointer (some ⟨s, 0, none⟩)), (0, .pointer (some ⟨s, 0, none⟩)), (3, .pointer (some ⟨bx1, 0, none⟩)), (5, .int .i64 ((posA l a.id : Nat) : Int)), (6, .bool (hasA l a.id))]) (by intro u; kernel_rfl) ?_
 refine SOps.nil (.inl rfl) ?_
 refine At.pick [0, 3, 5, 6, 14] (e' := [(0, .pointer (some ⟨s, 0, none⟩)), (3, .pointer (some ⟨bx1, 0, none⟩)), (5, .int .i64 ((posA l a.id : Nat) : Int)), (6, .bool (hasA l a.id)), (14, .bool false)]) (by kernel_rfl) ?_
 refine At.cond 300 false (c := .tmp 14) (k1 := pt15_4) (k2 := pt15_5) (by kernel_rfl) (by intro u; kernel_rfl) (fun h => by cases h) (fun _ => ?_)
 refine At.pick [0, 3, 5, 6] (e' := [(0, .pointer (some ⟨s, 0, none⟩)), (3, .pointer (some ⟨bx1, 0, none⟩)), (5, .int .i64 ((posA l a.id : Nat) : Int)), (6, .bool (hasA l a.id))]) (by kernel_rfl) ?_
 refine At.region (ops := opt15_5) (m := 4) (k' := kt15_6) (by kernel_rfl) 300 (k'' := pt15_6) (by kernel_rfl) ?_
 refine SOps.v (Val.ldN 1 18 30 bx1 0 4 [.int .i64 a.id, .int .i64 a.minute, .int .i64 a.days, .bool a.off] rfl (by intro u; kernel_rfl) (by kernel_rfl) (by kernel_rfl) rfl ⟨(Rd.cells rfl), (Rd.cells rfl), (Rd.cells rfl), (Rd.cells rfl), trivial⟩) ?_
 refine SOps.o (Op.callS 19 22 #[.agg #[.int .i64 a.id, .int .i64 a.minute, .int .i64 a.days, .bool a.off]] (.bool (rightA a)) [] (B := []) (D := [SetC s l, Cells bx1 30 [.int .i64 a.id, .int .i64 a.minute, .int .i64 a.days, .bool a.off]]) (by intro u; kernel_rfl) (rightF a) (by first | exact .inr rfl | exact .inl rfl) (by kernel_rfl) ?_)
 refine SOps.pures 2 (i' := 4) (m' := 0) (e' := [(17, .bool (!(rightA a))), (20, .bool (!(rightA a))), (19, .bool (rightA a)), (18, .agg #[.int .i64 a.id, .int .i64 a.minute, .int .i64 a.days, .bool a.off]), (0, .pointer (some ⟨s, 0, none⟩)), (3, .pointer (some ⟨bx1, 0, none⟩)), (5, .int .i64 ((posA l a.id : Nat) : Int)), (6, .bool (hasA l a.id))]) (by intro u; kernel_rfl) ?_
 refine SOps.nil (.inl rfl) ?_
 refine At.pick [0, 3, 5, 6, 17] (e' := [(0, .pointer (some ⟨s, 0, none⟩)), (3, .pointer (some ⟨bx1, 0, none⟩)), (5, .int .i64 ((posA l a.id : Nat) : Int)), (6, .bool (hasA l a.id)), (17, .bool (!(rightA a)))]) (by kernel_rfl) ?_
 refine At.split (fun zq => [(0, .pointer (some ⟨s, 0, none⟩)), (3, .pointer (some ⟨bx1, 0, none⟩)), (5, .int .i64 ((posA l a.id : Nat) : Int)), (6, .bool (hasA l a.id)), (17, .bool zq)]) (!(rightA a)) (fun hx2 => ?_) (fun hx2 => ?_)
 ·have hx2 : (rightA a) = false := by simpa using hx2
  refine At.cond 300 true (c := .tmp 17) (k1 := pt15_7) (k2 := pt15_8) (by kernel_rfl) (by intro u; kernel_rfl) (fun _ => ?_) (fun h => by cases h)
  refine At.pick [] (e' := []) (by kernel_rfl) ?_
  refine At.region (ops := opt15_7) (m := 1) (k' := kt15_7) (by kernel_rfl) 300 (k'' := pt15_9) (by kernel_rfl) ?_
  refine SOps.pures 1 (i' := 1) (m' := 0) (e' := [(4, .int .i64 2)]) (by intro u; kernel_rfl) ?_
  refine SOps.nil (.inl rfl) ?_
  refine At.ret1 (fn := Try.f15) (v := .int .i64 2) (t := 4) (by kernel_rfl) Try.func15 (by kernel_rfl) (by kernel_rfl) (fun F w ho => ?_)
  have hE : addE l a = 2 := by unfold addE; rw [if_pos (by simp [*])]
  have hL : addL l a = l := by unfold addL; rw [hE]; rfl
  rw [hE, hL]
  exact shutV rfl [0] rfl ho
 ·have hx2 : (rightA a) = true := by simpa using hx2
  refine At.cond 300 false (c := .tmp 17) (k1 := pt15_7) (k2 := pt15_8) (by kernel_rfl) (by intro u; kernel_rfl) (fun h => by cases h) (fun _ => ?_)
  refine At.pick [0, 3, 5, 6] (e' := [(0, .pointer (some ⟨s, 0, none⟩)), (3, .pointer (some ⟨bx1, 0, none⟩)), (5, .int .i64 ((posA l a.id : Nat) : Int)), (6, .bool (hasA l a.id))]) (by kernel_rfl) ?_
  refine At.region (ops := opt15_8) (m := 2) (k' := kt15_8) (by kernel_rfl) 300 (k'' := pt15_10) (by kernel_rfl) ?_
  refine SOps.pures 2 (i' := 2) (m' := 0) (e' := [(21, .bool (hasA l a.id)), (22, .bool (hasA l a.id)), (0, .pointer (some ⟨s, 0, none⟩)), (3, .pointer (some ⟨bx1, 0, none⟩)), (5, .int .i64 ((posA l a.id : Nat) : Int)), (6, .bool (hasA l a.id))]) (by intro u; kernel_rfl) ?_
  refine SOps.nil (.inl rfl) ?_
  refine At.pick [0, 3, 5, 21] (e' := [(0, .pointer (some ⟨s, 0, none⟩)), (3, .pointer (some ⟨bx1, 0, none⟩)), (5, .int .i64 ((posA l a.id : Nat) : Int)), (21, .bool (hasA l a.id))]) (by kernel_rfl) ?_
  refine At.split (fun zq => [(0, .pointer (some ⟨s, 0, none⟩)), (3, .pointer (some ⟨bx1, 0, none⟩)), (5, .int .i64 ((posA l a.id : Nat) : Int)), (21, .bool zq)]) ((hasA l a.id)) (fun hx3 => ?_) (fun hx3 => ?_)
  ·have hx3 : (hasA l a.id) = true := by simpa using hx3
   refine At.cond 300 true (c := .tmp 21) (k1 := pt15_11) (k2 := pt15_12) (by kernel_rfl) (by intro u; kernel_rfl) (fun _ => ?_) (fun h => by cases h)
   refine At.pick [] (e' := []) (by kernel_rfl) ?_
   refine At.region (ops := opt15_11) (m := 1) (k' := kt15_9) (by kernel_rfl) 300 (k'' := pt15_13) (by kernel_rfl) ?_
   refine SOps.pures 1 (i' := 1) (m' := 0) (e' := [(4, .int .i64 9)]) (by intro u; kernel_rfl) ?_
   refine SOps.nil (.inl rfl) ?_
   refine At.ret1 (fn := Try.f15) (v := .int .i64 9) (t := 4) (by kernel_rfl) Try.func15 (by kernel_rfl) (by kernel_rfl) (fun F w ho => ?_)
   have hE : addE l a = 9 := by unfold addE; rw [if_neg (by simp [*]), if_pos (by simp [*])]
   have hL : addL l a = l := by unfold addL; rw [hE]; rfl
   rw [hE, hL]
   exact shutV rfl [0] rfl ho
  ·have hx3 : (hasA l a.id) = false := by simpa using hx3
   refine At.cond 300 false (c := .tmp 21) (k1 := pt15_11) (k2 := pt15_12) (by kernel_rfl) (by intro u; kernel_rfl) (fun h => by cases h) (fun _ => ?_)
   refine At.pick [0, 3, 5] (e' := [(0, .pointer (some ⟨s, 0, none⟩)), (3, .pointer (some ⟨bx1, 0, none⟩)), (5, .int .i64 ((posA l a.id : Nat) : Int))]) (by kernel_rfl) ?_
   refine At.conseq (fun F w ho => SetC.open_ ho) (fun x => ?_)
   obtain ⟨S, cap⟩ := x
   refine At.region (ops := opt15_12) (m := 7) (k' := kt15_10) (by kernel_rfl) 300 (k'' := pt15_14) (by kernel_rfl) ?_
   refine SOps.pures 3 (i' := 3) (m' := 4) (e' := [(26, .pointer (some ⟨s, 0, none⟩)), (25, .pointer (some ⟨s, 0, none⟩)), (24, .pointer (some ⟨s, 0, none⟩)), (0, .pointer (some ⟨s, 0, none⟩)), (3, .pointer (some ⟨bx1, 0, none⟩)), (5, .int .i64 ((posA l a.id : Nat) : Int))]) (by intro u; kernel_rfl) ?_
   refine SOps.v (Val.ld1 0 27 25 s 0 (.slice S l.length cap) rfl (by intro u; kernel_rfl) (by kernel_rfl) (Rd.cells rfl)) ?_
   refine SOps.pures 3 (i' := 7) (m' := 0) (e' := [(23, .bool (decide (((l.length : Nat) : Int) ≥ 64))), (29, .bool (decide (((l.length : Nat) : Int) ≥ 64))), (28, .int .i64 ((l.length : Nat) : Int)), (27, .slice S l.length cap), (26, .pointer (some ⟨s, 0, none⟩)), (25, .pointer (some ⟨s, 0, none⟩)), (24, .pointer (some ⟨s, 0, none⟩)), (0, .pointer (some ⟨s, 0, none⟩)), (3, .pointer (some ⟨bx1, 0, none⟩)), (5, .int .i64 ((posA l a.id : Nat) : Int))]) (by intro u; kernel_rfl) ?_
   refine SOps.nil (.inl rfl) ?_
   refine At.pick [0, 3, 5, 23] (e' := [(0, .pointer (some ⟨s, 0, none⟩)), (3, .pointer (some ⟨bx1, 0, none⟩)), (5, .int .i64 ((posA l a.id : Nat) : Int)), (23, .bool (decide (((l.length : Nat) : Int) ≥ 64)))]) (by kernel_rfl) ?_
   refine At.split (fun zq => [(0, .pointer (some ⟨s, 0, none⟩)), (3, .pointer (some ⟨bx1, 0, none⟩)), (5, .int .i64 ((posA l a.id : Nat) : Int)), (23, .bool zq)]) (decide (((l.length : Nat) : Int) ≥ 64)) (fun hx4 => ?_) (fun hx4 => ?_)
   ·have hx4 : ((l.length : Nat) : Int) ≥ 64 := by simpa using hx4
    refine At.cond 300 true (c := .tmp 23) (k1 := pt15_15) (k2 := pt15_16) (by kernel_rfl) (by intro u; kernel_rfl) (fun _ => ?_) (fun h => by cases h)
    refine At.pick [] (e' := []) (by kernel_rfl) ?_
    refine At.region (ops := opt15_15) (m := 1) (k' := kt15_11) (by kernel_rfl) 300 (k'' := pt15_17) (by kernel_rfl) ?_
    refine SOps.pures 1 (i' := 1) (m' := 0) (e' := [(4, .int .i64 3)]) (by intro u; kernel_rfl) ?_
    refine SOps.nil (.inl rfl) ?_
    refine At.ret1 (fn := Try.f15) (v := .int .i64 3) (t := 4) (by kernel_rfl) Try.func15 (by kernel_rfl) (by kernel_rfl) (fun F w ho => ?_)
    have hE : addE l a = 3 := by unfold addE; rw [if_neg (by simp [*]), if_neg (by simp [*]), if_pos (by omega)]
    have hL : addL l a = l := by unfold addL; rw [hE]; rfl
    have ho2 := SetC.close (l := l) rfl [0, 0] rfl ho
    rw [hE, hL]
    exact shutV rfl [0] rfl ho2
   ·have hx4 : ((l.length : Nat) : Int) < 64 := by simpa using hx4
    refine At.cond 300 false (c := .tmp 23) (k1 := pt15_15) (k2 := pt15_16) (by kernel_rfl) (by intro u; kernel_rfl) (fun h => by cases h) (fun _ => ?_)
    refine At.pick [0, 3, 5] (e' := [(0, .pointer (some ⟨s, 0, none⟩)), (3, .pointer (some ⟨bx1, 0, none⟩)), (5, .int .i64 ((posA l a.id : Nat) : Int))]) (by kernel_rfl) ?_
    refine At.game [0, 1] 11 (L := #[false, false, false, false, false, false, false, false, false, false, false, false]) (ops := opt15_16) (m := 12) (k' := kt15_12) (by kernel_rfl) 300 (k'' := pt15_18) (by kernel_rfl) (by kernel_rfl) rfl (H := [Cells s 50 [.slice S l.length cap], Cells bx1 30 [.int .i64 a.id, .int .i64 a.minute, .int .i64 a.days, .bool a.off]]) (E := [Grow S cap 30 4 l.length (l.flatMap encA)]) rfl ?_
    refine GOps.pures [0, 1, 2, 3, 5] (L' := #[true, true, true, true, false, true, false, false, false, false, false, false]) (m' := 7) (e' := [(35, .int .i64 ((posA l a.id : Nat) : Int)), (33, .pointer (some ⟨s, 0, none⟩)), (32, .pointer (some ⟨s, 0, none⟩)), (31, .pointer (some ⟨s, 0, none⟩)), (30, .pointer (some ⟨s, 0, none⟩)), (0, .pointer (some ⟨s, 0, none⟩)), (3, .pointer (some ⟨bx1, 0, none⟩)), (5, .int .i64 ((posA l a.id : Nat) : Int))]) (by kernel_rfl) (by intro u; kernel_rfl) ?_
    refine GOps.v 4 (Val.ld1 0 34 25 s 0 (.slice S l.length cap) rfl (by intro u; kernel_rfl) (by kernel_rfl) (Rd.cells rfl)) (by kernel_rfl) (by kernel_rfl) (by kernel_rfl) (by kernel_rfl) (L' := #[true, true, true, true, true, true, false, false, false, false, false, false]) rfl ?_
    refine GOps.v 6 (Val.ldN 1 36 30 bx1 0 4 [.int .i64 a.id, .int .i64 a.minute, .int .i64 a.days, .bool a.off] rfl (by intro u; kernel_rfl) (by kernel_rfl) (by kernel_rfl) rfl ⟨(Rd.cells rfl), (Rd.cells rfl), (Rd.cells rfl), (Rd.cells rfl), trivial⟩) (by kernel_rfl) (by kernel_rfl) (by kernel_rfl) (by kernel_rfl) (L' := #[true, true, true, true, true, true, true, false, false, false, false, false]) rfl ?_
    refine GOps.one 7 (by kernel_rfl) (GStep.o 7 (L' := #[true, true, true, true, true, true, true, true, false, false, false, false]) rfl (Op.new 37 30 [.int .i64 a.id, .int .i64 a.minute, .int .i64 a.days, .bool a.off] (fun b => .slice (some ⟨b, 0, none⟩) 1 1) (by intro u b; kernel_rfl) ?_))
    intro bx5
    refine GOps.one 8 (by kernel_rfl) (GStep.o 8 (L' := #[true, true, true, true, true, true, true, true, true, false, false, false]) rfl (Op.callX 38 23 #[.slice S l.length cap, .int .i64 ((posA l a.id : Nat) : Int), .slice (some ⟨bx5, 0, none⟩) 1 1] _ _ [1, 0] (B := [Grow S cap 30 4 l.length (l.flatMap encA), Cells bx5 30 [.int .i64 a.id, .int .i64 a.minute, .int .i64 a.days, .bool a.off]]) (D := []) (by intro u; kernel_rfl) (insertA S l.length cap l rfl (by omega) (posA l a.id) bx5 a (pos_le _ _)) (by first | exact .inr rfl | exact .inl rfl) (by kernel_rfl) ?_))
    rintro ⟨Sx6, cx7⟩ -
    refine GOps.pures [9, 10] (L' := #[true, true, true, true, true, true, true, true, true, true, true, false]) (m' := 1) (e' := [(40, .pointer (some ⟨s, 0, none⟩)), (39, .pointer (some ⟨s, 0, none⟩)), (38, .slice Sx6 (l.length + 1) cx7), (37, .slice (some ⟨bx5, 0, none⟩) 1 1), (36, .agg #[.int .i64 a.id, .int .i64 a.minute, .int .i64 a.days, .bool a.off]), (34, .slice S l.length cap), (35, .int .i64 ((posA l a.id : Nat) : Int)), (33, .pointer (some ⟨s, 0, none⟩)), (32, .pointer (some ⟨s, 0, none⟩)), (31, .pointer (some ⟨s, 0, none⟩)), (30, .pointer (some ⟨s, 0, none⟩)), (0, .pointer (some ⟨s, 0, none⟩)), (3, .pointer (some ⟨bx1, 0, none⟩)), (5, .int .i64 ((posA l a.id : Nat) : Int))]) (by kernel_rfl) (by intro u; kernel_rfl) ?_
    refine GOps.one 11 (by kernel_rfl) (GStep.d (L' := #[true, true, true, true, true, true, true, true, true, true, true, true]) rfl rfl (Op.st 0 25 s 0 (.slice Sx6 (l.length + 1) cx7) [.slice Sx6 (l.length + 1) cx7] 1 (B' := Cells s 50 [.slice Sx6 (l.length + 1) cx7]) (A' := [Cells s 50 [.slice Sx6 (l.length + 1) cx7], Cells bx1 30 [.int .i64 a.id, .int .i64 a.minute, .int .i64 a.days, .bool a.off], Grow Sx6 cx7 30 4 (l.length + 1) ((insA l (posA l a.id) a).flatMap encA)]) rfl (by intro u; kernel_rfl) rfl (by kernel_rfl) rfl rfl (Wr.cells rfl rfl) rfl ?_))
    refine GOps.nil (by kernel_rfl) ?_
    refine At.pick [] (e' := []) (by kernel_rfl) ?_
    refine At.region (ops := opt15_18) (m := 1) (k' := kt15_13) (by kernel_rfl) 300 (k'' := pt15_19) (by kernel_rfl) ?_
    refine SOps.pures 1 (i' := 1) (m' := 0) (e' := [(4, .int .i64 0)]) (by intro u; kernel_rfl) ?_
    refine SOps.nil (.inl rfl) ?_
    refine At.ret1 (fn := Try.f15) (v := .int .i64 0) (t := 4) (by kernel_rfl) Try.func15 (by kernel_rfl) (by kernel_rfl) (fun F w ho => ?_)
    have hE : addE l a = 0 := by unfold addE; rw [if_neg (by simp [*]), if_neg (by simp [*]), if_neg (by omega)]
    have hL : addL l a = insA l (posA l a.id) a := by unfold addL; rw [if_pos hE]
    have ho2 := SetC.close (l := insA l (posA l a.id) a) (insA_len l _ a (pos_le _ _)) [0, 1] rfl ho
    rw [← hL] at ho2
    exact shutV (by rw [hE]) [0] rfl ho2
theorem addN (a : Alarm) : Ctr Try.prog 15 #[.pointer none, .agg #[.int .i64 a.id, .int .i64 a.minute, .int .i64 a.days, .bool a.off]] [] (fun v' => star (fact (v' = .int .i64 1) :: [])) false := by
 refine spec_of_at (fn := Try.f15) (c := bd15) (args := [.pointer none, .agg #[.int .i64 a.id, .int .i64 a.minute, .int .i64 a.days, .bool a.off]]) (n := 41) (e := [(0, .pointer none), (1, .agg #[.int .i64 a.id, .int .i64 a.minute, .int .i64 a.days, .bool a.off])]) (k := pt15_0) Try.func15 (by kernel_rfl) (by kernel_rfl) (by kernel_rfl) (by kernel_rfl) 300 (by kernel_rfl) ?_
 refine At.region (ops := opt15_0) (m := 2) (k' := kt15_0) (by kernel_rfl) 300 (k'' := pt15_1) (by kernel_rfl) ?_
 refine SOps.o (Op.new 3 30 [.int .i64 a.id, .int .i64 a.minute, .int .i64 a.days, .bool a.off] (fun b => .pointer (some ⟨b, 0, none⟩)) (by intro u b; kernel_rfl) ?_)
 intro bx1
 refine SOps.pures 1 (i' := 2) (m' := 0) (e' := [(4, .int .i64 0), (3, .pointer (some ⟨bx1, 0, none⟩)), (0, .pointer none), (1, .agg #[.int .i64 a.id, .int .i64 a.minute, .int .i64 a.days, .bool a.off])]) (by intro u; kernel_rfl) ?_
 refine SOps.nil (.inl rfl) ?_
 refine At.pick [0, 3] (e' := [(0, .pointer none), (3, .pointer (some ⟨bx1, 0, none⟩))]) (by kernel_rfl) ?_
 refine At.region (ops := opt15_1) (m := 9) (k' := kt15_1) (by kernel_rfl) 300 (k'' := pt15_2) (by kernel_rfl) ?_
 refine SOps.pures 2 (i' := 2) (m' := 7) (e' := [(9, .pointer (some ⟨bx1, 0, none⟩)), (8, .pointer none), (0, .pointer none), (3, .pointer (some ⟨bx1, 0, none⟩))]) (by intro u; kernel_rfl) ?_
 refine SOps.v (Val.ld1 0 10 3 bx1 0 (.int .i64 a.id) rfl (by intro u; kernel_rfl) (by kernel_rfl) (Rd.cells rfl)) ?_
 refine SOps.o (Op.callS 11 21 #[.pointer none, .int .i64 a.id] (.tuple #[.int .i64 0, .bool false]) [] (B := []) (D := [Cells bx1 30 [.int .i64 a.id, .int .i64 a.minute, .int .i64 a.days, .bool a.off]]) (by intro u; kernel_rfl) (placeN a.id) (by first | exact .inr rfl | exact .inl rfl) (by kernel_rfl) ?_)
 refine SOps.pures 5 (i' := 9) (m' := 0) (e' := [(6, .bool false), (5, .int .i64 0), (13, .bool false), (12, .int .i64 0), (7, .tuple #[.int .i64 0, .bool false]), (11, .tuple #[.int .i64 0, .bool false]), (10, .int .i64 a.id), (9, .pointer (some ⟨bx1, 0, none⟩)), (8, .pointer none), (0, .pointer none), (3, .pointer (some ⟨bx1, 0, none⟩))]) (by intro u; kernel_rfl) ?_
 refine SOps.nil (.inl rfl) ?_
 refine At.pick [0, 3, 5, 6] (e' := [(0, .pointer none), (3, .pointer (some ⟨bx1, 0, none⟩)), (5, .int .i64 0), (6, .bool false)]) (by kernel_rfl) ?_
 refine At.region (ops := opt15_2) (m := 3) (k' := kt15_4) (by kernel_rfl) 300 (k'' := pt15_3) (by kernel_rfl) ?_
 refine SOps.pures 3 (i' := 3) (m' := 0) (e' := [(14, .bool true), (16, .bool true), (15, .pointer none), (0, .pointer none), (3, .pointer (some ⟨bx1, 0, none⟩)), (5, .int .i64 0), (6, .bool false)]) (by intro u; kernel_rfl) ?_
 refine SOps.nil (.inl rfl) ?_
 refine At.pick [0, 3, 5, 6, 14] (e' := [(0, .pointer none), (3, .pointer (some ⟨bx1, 0, none⟩)), (5, .int .i64 0), (6, .bool false), (14, .bool true)]) (by kernel_rfl) ?_
 refine At.cond 300 true (c := .tmp 14) (k1 := pt15_4) (k2 := pt15_5) (by kernel_rfl) (by intro u; kernel_rfl) (fun _ => ?_) (fun h => by cases h)
 refine At.pick [] (e' := []) (by kernel_rfl) ?_
 refine At.region (ops := opt15_4) (m := 1) (k' := kt15_5) (by kernel_rfl) 300 (k'' := pt15_20) (by kernel_rfl) ?_
 refine SOps.pures 1 (i' := 1) (m' := 0) (e' := [(4, .int .i64 1)]) (by intro u; kernel_rfl) ?_
 refine SOps.nil (.inl rfl) ?_
 refine At.ret1 (fn := Try.f15) (v := .int .i64 1) (t := 4) (by kernel_rfl) Try.func15 (by kernel_rfl) (by kernel_rfl) (fun F w ho => ?_)
 exact shutV rfl [] rfl ho
noncomputable def bd17 : Code := (Try.f17.body).getD .skip
noncomputable def kt17_0 : List Item := .code (pick [1] bd17) :: []
noncomputable def pt17_0 : List Item := .code (pick [0] bd17) :: kt17_0
noncomputable def opt17_0 : Array Oper := opsOf (pick [0] bd17)
noncomputable def kt17_1 : List Item := .code (pick [1, 1] bd17) :: []
noncomputable def pt17_1 : List Item := .code (pick [1, 0] bd17) :: kt17_1
noncomputable def opt17_1 : Array Oper := opsOf (pick [1, 0] bd17)
noncomputable def kt17_2 : List Item := .code (pick [1, 1, 1] bd17) :: []
noncomputable def kt17_3 : List Item := .code (pick [1, 1, 0, 1] bd17) :: kt17_2
noncomputable def pt17_2 : List Item := .code (pick [1, 1, 0, 0] bd17) :: kt17_3
noncomputable def opt17_2 : Array Oper := opsOf (pick [1, 1, 0, 0] bd17)
noncomputable def pt17_3 : List Item := .code (pick [1, 1, 0, 1] bd17) :: kt17_2
noncomputable def pt17_4 : List Item := .code (pick [1, 1, 0, 1, 0] bd17) :: kt17_2
noncomputable def opt17_4 : Array Oper := opsOf (pick [1, 1, 0, 1, 0] bd17)
noncomputable def kt17_4 : List Item := .code (pick [1, 1, 1, 1] bd17) :: []
noncomputable def pt17_5 : List Item := .code (pick [1, 1, 1, 0] bd17) :: kt17_4
noncomputable def opt17_5 : Array Oper := opsOf (pick [1, 1, 1, 0] bd17)
noncomputable def pt17_6 : List Item := .code (pick [1, 1, 1, 1] bd17) :: []
theorem dropS (s : Nat) (l : List Alarm) (hg : GoodA l) (t : Int) : Ctr Try.prog 17 #[.pointer (some ⟨s, 0, none⟩), .int .i64 t] [SetC s l] (fun v' => star (fact (v' = .bool (hasA l t)) :: [SetC s (dropL l t)])) false := by
 refine spec_of_at (fn := Try.f17) (c := bd17) (args := [.pointer (some ⟨s, 0, none⟩), .int .i64 t]) (n := 26) (e := [(0, .pointer (some ⟨s, 0, none⟩)), (1, .int .i64 t)]) (k := pt17_0) Try.func17 (by kernel_rfl) (by kernel_rfl) (by kernel_rfl) (by kernel_rfl) 300 (by kernel_rfl) ?_
 have hlen := hg.len
 refine At.region (ops := opt17_0) (m := 1) (k' := kt17_0) (by kernel_rfl) 300 (k'' := pt17_1) (by kernel_rfl) ?_
 refine SOps.pures 1 (i' := 1) (m' := 0) (e' := [(4, .bool false), (0, .pointer (some ⟨s, 0, none⟩)), (1, .int .i64 t)]) (by intro u; kernel_rfl) ?_
 refine SOps.nil (.inl rfl) ?_
 refine At.pick [0, 1] (e' := [(0, .pointer (some ⟨s, 0, none⟩)), (1, .int .i64 t)]) (by kernel_rfl) ?_
 refine At.region (ops := opt17_1) (m := 8) (k' := kt17_1) (by kernel_rfl) 300 (k'' := pt17_2) (by kernel_rfl) ?_
 refine SOps.pures 2 (i' := 2) (m' := 6) (e' := [(9, .int .i64 t), (8, .pointer (some ⟨s, 0, none⟩)), (0, .pointer (some ⟨s, 0, none⟩)), (1, .int .i64 t)]) (by intro u; kernel_rfl) ?_
 refine SOps.o (Op.callS 10 21 #[.pointer (some ⟨s, 0, none⟩), .int .i64 t] (.tuple #[.int .i64 ((posA l t : Nat) : Int), .bool (hasA l t)]) [0] (B := [SetC s l]) (D := []) (by intro u; kernel_rfl) (placeS s l hg t) (by first | exact .inr rfl | exact .inl rfl) (by kernel_rfl) ?_)
 refine SOps.pures 5 (i' := 8) (m' := 0) (e' := [(6, .bool (hasA l t)), (5, .int .i64 ((posA l t : Nat) : Int)), (12, .bool (hasA l t)), (11, .int .i64 ((posA l t : Nat) : Int)), (7, .tuple #[.int .i64 ((posA l t : Nat) : Int), .bool (hasA l t)]), (10, .tuple #[.int .i64 ((posA l t : Nat) : Int), .bool (hasA l t)]), (9, .int .i64 t), (8, .pointer (some ⟨s, 0, none⟩)), (0, .pointer (some ⟨s, 0, none⟩)), (1, .int .i64 t)]) (by intro u; kernel_rfl) ?_
 refine SOps.nil (.inl rfl) ?_
 refine At.pick [0, 5, 6] (e' := [(0, .pointer (some ⟨s, 0, none⟩)), (5, .int .i64 ((posA l t : Nat) : Int)), (6, .bool (hasA l t))]) (by kernel_rfl) ?_
 refine At.region (ops := opt17_2) (m := 1) (k' := kt17_3) (by kernel_rfl) 300 (k'' := pt17_3) (by kernel_rfl) ?_
 refine SOps.pures 1 (i' := 1) (m' := 0) (e' := [(13, .bool (hasA l t)), (0, .pointer (some ⟨s, 0, none⟩)), (5, .int .i64 ((posA l t : Nat) : Int)), (6, .bool (hasA l t))]) (by intro u; kernel_rfl) ?_
 refine SOps.nil (.inl rfl) ?_
 refine At.pick [0, 5, 6, 13] (e' := [(0, .pointer (some ⟨s, 0, none⟩)), (5, .int .i64 ((posA l t : Nat) : Int)), (6, .bool (hasA l t)), (13, .bool (hasA l t))]) (by kernel_rfl) ?_
 refine At.split (fun zq => [(0, .pointer (some ⟨s, 0, none⟩)), (5, .int .i64 ((posA l t : Nat) : Int)), (6, .bool zq), (13, .bool zq)]) ((hasA l t)) (fun hx1 => ?_) (fun hx1 => ?_)
 ·have hx1 : (hasA l t) = true := by simpa using hx1
  refine At.cond 300 true (c := .tmp 13) (k1 := pt17_4) (k2 := pt17_5) (by kernel_rfl) (by intro u; kernel_rfl) (fun _ => ?_) (fun h => by cases h)
  refine At.pick [0, 5, 6] (e' := [(0, .pointer (some ⟨s, 0, none⟩)), (5, .int .i64 ((posA l t : Nat) : Int)), (6, .bool true)]) (by kernel_rfl) ?_
  have hlt := has_lt hg (by assumption)
  refine At.conseq (fun F w ho => SetC.open_ ho) (fun x => ?_)
  obtain ⟨S, cap⟩ := x
  refine At.region (ops := opt17_4) (m := 12) (k' := kt17_2) (by kernel_rfl) 300 (k'' := pt17_5) (by kernel_rfl) ?_
  refine SOps.pures 4 (i' := 4) (m' := 8) (e' := [(17, .pointer (some ⟨s, 0, none⟩)), (16, .pointer (some ⟨s, 0, none⟩)), (15, .pointer (some ⟨s, 0, none⟩)), (14, .pointer (some ⟨s, 0, none⟩)), (0, .pointer (some ⟨s, 0, none⟩)), (5, .int .i64 ((posA l t : Nat) : Int)), (6, .bool true)]) (by intro u; kernel_rfl) ?_
  refine SOps.v (Val.ld1 0 18 25 s 0 (.slice S l.length cap) rfl (by intro u; kernel_rfl) (by kernel_rfl) (Rd.cells rfl)) ?_
  refine SOps.pures 2 (i' := 7) (m' := 5) (e' := [(20, .int .i64 ((posA l t : Nat) : Int)), (19, .int .i64 ((posA l t : Nat) : Int)), (18, .slice S l.length cap), (17, .pointer (some ⟨s, 0, none⟩)), (16, .pointer (some ⟨s, 0, none⟩)), (15, .pointer (some ⟨s, 0, none⟩)), (14, .pointer (some ⟨s, 0, none⟩)), (0, .pointer (some ⟨s, 0, none⟩)), (5, .int .i64 ((posA l t : Nat) : Int)), (6, .bool true)]) (by intro u; kernel_rfl) ?_
  refine SOps.v (Val.pe 21 (.int .i64 (IntKind.i64.wrap (((posA l t : Nat) : Int) + 1))) (.int .i64 ((posA l t + 1 : Nat) : Int)) (by intro u; kernel_rfl) (i64_in (by omega) (by omega) (by omega))) ?_
  refine SOps.o (Op.callS 22 24 #[.slice S l.length cap, .int .i64 ((posA l t : Nat) : Int), .int .i64 ((posA l t + 1 : Nat) : Int)] (.slice S (l.length - 1) cap) [1] (B := [Grow S cap 30 4 l.length (l.flatMap encA)]) (D := [Cells s 50 [.slice S l.length cap]]) (by intro u; kernel_rfl) (deleteA S l.length cap l rfl (by omega) (posA l t) hlt) (by first | exact .inr rfl | exact .inl rfl) (by kernel_rfl) ?_)
  refine SOps.pures 2 (i' := 11) (m' := 1) (e' := [(24, .pointer (some ⟨s, 0, none⟩)), (23, .pointer (some ⟨s, 0, none⟩)), (22, .slice S (l.length - 1) cap), (21, .int .i64 ((posA l t + 1 : Nat) : Int)), (20, .int .i64 ((posA l t : Nat) : Int)), (19, .int .i64 ((posA l t : Nat) : Int)), (18, .slice S l.length cap), (17, .pointer (some ⟨s, 0, none⟩)), (16, .pointer (some ⟨s, 0, none⟩)), (15, .pointer (some ⟨s, 0, none⟩)), (14, .pointer (some ⟨s, 0, none⟩)), (0, .pointer (some ⟨s, 0, none⟩)), (5, .int .i64 ((posA l t : Nat) : Int)), (6, .bool true)]) (by intro u; kernel_rfl) ?_
  refine SOps.o (Op.st 1 25 s 0 (.slice S (l.length - 1) cap) [.slice S (l.length - 1) cap] 1 (B' := Cells s 50 [.slice S (l.length - 1) cap]) (A' := [Grow S cap 30 4 (l.length - 1) (((l).eraseIdx (posA l t)).flatMap encA), Cells s 50 [.slice S (l.length - 1) cap]]) rfl (by intro u; kernel_rfl) rfl (by kernel_rfl) rfl rfl (Wr.cells rfl rfl) rfl ?_)
  refine SOps.nil (.inl rfl) ?_
  refine At.pick [6] (e' := [(6, .bool true)]) (by kernel_rfl) ?_
  refine At.region (ops := opt17_5) (m := 2) (k' := kt17_4) (by kernel_rfl) 300 (k'' := pt17_6) (by kernel_rfl) ?_
  refine SOps.pures 2 (i' := 2) (m' := 0) (e' := [(4, .bool true), (25, .bool true), (6, .bool true)]) (by intro u; kernel_rfl) ?_
  refine SOps.nil (.inl rfl) ?_
  refine At.pick [4] (e' := [(4, .bool true)]) (by kernel_rfl) ?_
  refine At.ret1 (fn := Try.f17) (v := .bool true) (t := 4) (by kernel_rfl) Try.func17 (by kernel_rfl) (by kernel_rfl) (fun F w ho => ?_)
  have hL : dropL l t = l.eraseIdx (posA l t) := by unfold dropL; rw [if_pos (by assumption)]
  have ho2 := SetC.close (l := l.eraseIdx (posA l t)) (by rw [List.length_eraseIdx, if_pos hlt]) [1, 0] rfl ho
  rw [← hL] at ho2
  exact shutV (by simp [*]) [0] rfl ho2
 ·have hx1 : (hasA l t) = false := by simpa using hx1
  refine At.cond 300 false (c := .tmp 13) (k1 := pt17_4) (k2 := pt17_5) (by kernel_rfl) (by intro u; kernel_rfl) (fun h => by cases h) (fun _ => ?_)
  refine At.pick [6] (e' := [(6, .bool false)]) (by kernel_rfl) ?_
  refine At.region (ops := opt17_5) (m := 2) (k' := kt17_4) (by kernel_rfl) 300 (k'' := pt17_6) (by kernel_rfl) ?_
  refine SOps.pures 2 (i' := 2) (m' := 0) (e' := [(4, .bool false), (25, .bool false), (6, .bool false)]) (by intro u; kernel_rfl) ?_
  refine SOps.nil (.inl rfl) ?_
  refine At.pick [4] (e' := [(4, .bool false)]) (by kernel_rfl) ?_
  refine At.ret1 (fn := Try.f17) (v := .bool false) (t := 4) (by kernel_rfl) Try.func17 (by kernel_rfl) (by kernel_rfl) (fun F w ho => ?_)
  have hL : dropL l t = l := by unfold dropL; rw [if_neg (by simp [*])]
  rw [hL]
  exact shutV (by simp [*]) [0] rfl ho
noncomputable def bd16 : Code := (Try.f16.body).getD .skip
noncomputable def kt16_0 : List Item := .code (pick [1] bd16) :: []
noncomputable def pt16_0 : List Item := .code (pick [0] bd16) :: kt16_0
noncomputable def opt16_0 : Array Oper := opsOf (pick [0] bd16)
noncomputable def kt16_1 : List Item := .code (pick [1, 1] bd16) :: []
noncomputable def pt16_1 : List Item := .code (pick [1, 0] bd16) :: kt16_1
noncomputable def opt16_1 : Array Oper := opsOf (pick [1, 0] bd16)
noncomputable def kt16_2 : List Item := .code (pick [1, 1, 1] bd16) :: []
noncomputable def kt16_3 : List Item := .code (pick [1, 1, 0, 1] bd16) :: kt16_2
noncomputable def pt16_2 : List Item := .code (pick [1, 1, 0, 0] bd16) :: kt16_3
noncomputable def opt16_2 : Array Oper := opsOf (pick [1, 1, 0, 0] bd16)
noncomputable def pt16_3 : List Item := .code (pick [1, 1, 0, 1] bd16) :: kt16_2
noncomputable def pt16_4 : List Item := .code (pick [1, 1, 0, 1, 0] bd16) :: kt16_2
noncomputable def opt16_4 : Array Oper := opsOf (pick [1, 1, 0, 1, 0] bd16)
noncomputable def kt16_4 : List Item := .code (pick [1, 1, 1, 1] bd16) :: []
noncomputable def pt16_5 : List Item := .code (pick [1, 1, 1, 0] bd16) :: kt16_4
noncomputable def opt16_5 : Array Oper := opsOf (pick [1, 1, 1, 0] bd16)
noncomputable def pt16_6 : List Item := .code (pick [1, 1, 1, 1] bd16) :: []
theorem switchS (s : Nat) (l : List Alarm) (hg : GoodA l) (t : Int) (off : Bool) : Ctr Try.prog 16 #[.pointer (some ⟨s, 0, none⟩), .int .i64 t, .bool off] [SetC s l] (fun v' => star (fact (v' = .bool (hasA l t)) :: [SetC s (swL l t off)])) false := by
 refine spec_of_at (fn := Try.f16) (c := bd16) (args := [.pointer (some ⟨s, 0, none⟩), .int .i64 t, .bool off]) (n := 25) (e := [(0, .pointer (some ⟨s, 0, none⟩)), (1, .int .i64 t), (2, .bool off)]) (k := pt16_0) Try.func16 (by kernel_rfl) (by kernel_rfl) (by kernel_rfl) (by kernel_rfl) 300 (by kernel_rfl) ?_
 have hlen := hg.len
 refine At.region (ops := opt16_0) (m := 1) (k' := kt16_0) (by kernel_rfl) 300 (k'' := pt16_1) (by kernel_rfl) ?_
 refine SOps.pures 1 (i' := 1) (m' := 0) (e' := [(6, .bool false), (0, .pointer (some ⟨s, 0, none⟩)), (1, .int .i64 t), (2, .bool off)]) (by intro u; kernel_rfl) ?_
 refine SOps.nil (.inl rfl) ?_
 refine At.pick [0, 1, 2] (e' := [(0, .pointer (some ⟨s, 0, none⟩)), (1, .int .i64 t), (2, .bool off)]) (by kernel_rfl) ?_
 refine At.region (ops := opt16_1) (m := 8) (k' := kt16_1) (by kernel_rfl) 300 (k'' := pt16_2) (by kernel_rfl) ?_
 refine SOps.pures 2 (i' := 2) (m' := 6) (e' := [(11, .int .i64 t), (10, .pointer (some ⟨s, 0, none⟩)), (0, .pointer (some ⟨s, 0, none⟩)), (1, .int .i64 t), (2, .bool off)]) (by intro u; kernel_rfl) ?_
 refine SOps.o (Op.callS 12 21 #[.pointer (some ⟨s, 0, none⟩), .int .i64 t] (.tuple #[.int .i64 ((posA l t : Nat) : Int), .bool (hasA l t)]) [0] (B := [SetC s l]) (D := []) (by intro u; kernel_rfl) (placeS s l hg t) (by first | exact .inr rfl | exact .inl rfl) (by kernel_rfl) ?_)
 refine SOps.pures 5 (i' := 8) (m' := 0) (e' := [(8, .bool (hasA l t)), (7, .int .i64 ((posA l t : Nat) : Int)), (14, .bool (hasA l t)), (13, .int .i64 ((posA l t : Nat) : Int)), (9, .tuple #[.int .i64 ((posA l t : Nat) : Int), .bool (hasA l t)]), (12, .tuple #[.int .i64 ((posA l t : Nat) : Int), .bool (hasA l t)]), (11, .int .i64 t), (10, .pointer (some ⟨s, 0, none⟩)), (0, .pointer (some ⟨s, 0, none⟩)), (1, .int .i64 t), (2, .bool off)]) (by intro u; kernel_rfl) ?_
 refine SOps.nil (.inl rfl) ?_
 refine At.pick [0, 2, 7, 8] (e' := [(0, .pointer (some ⟨s, 0, none⟩)), (2, .bool off), (7, .int .i64 ((posA l t : Nat) : Int)), (8, .bool (hasA l t))]) (by kernel_rfl) ?_
 refine At.region (ops := opt16_2) (m := 1) (k' := kt16_3) (by kernel_rfl) 300 (k'' := pt16_3) (by kernel_rfl) ?_
 refine SOps.pures 1 (i' := 1) (m' := 0) (e' := [(15, .bool (hasA l t)), (0, .pointer (some ⟨s, 0, none⟩)), (2, .bool off), (7, .int .i64 ((posA l t : Nat) : Int)), (8, .bool (hasA l t))]) (by intro u; kernel_rfl) ?_
 refine SOps.nil (.inl rfl) ?_
 refine At.pick [0, 2, 7, 8, 15] (e' := [(0, .pointer (some ⟨s, 0, none⟩)), (2, .bool off), (7, .int .i64 ((posA l t : Nat) : Int)), (8, .bool (hasA l t)), (15, .bool (hasA l t))]) (by kernel_rfl) ?_
 refine At.split (fun zq => [(0, .pointer (some ⟨s, 0, none⟩)), (2, .bool off), (7, .int .i64 ((posA l t : Nat) : Int)), (8, .bool zq), (15, .bool zq)]) ((hasA l t)) (fun hx1 => ?_) (fun hx1 => ?_)
 ·have hx1 : (hasA l t) = true := by simpa using hx1
  refine At.cond 300 true (c := .tmp 15) (k1 := pt16_4) (k2 := pt16_5) (by kernel_rfl) (by intro u; kernel_rfl) (fun _ => ?_) (fun h => by cases h)
  refine At.pick [0, 2, 7, 8] (e' := [(0, .pointer (some ⟨s, 0, none⟩)), (2, .bool off), (7, .int .i64 ((posA l t : Nat) : Int)), (8, .bool true)]) (by kernel_rfl) ?_
  have hlt := has_lt hg (by assumption)
  refine At.conseq (fun F w ho => SetC.open_ ho) (fun x => ?_)
  obtain ⟨S, cap⟩ := x
  refine At.region (ops := opt16_4) (m := 9) (k' := kt16_2) (by kernel_rfl) 300 (k'' := pt16_5) (by kernel_rfl) ?_
  refine SOps.pures 3 (i' := 3) (m' := 6) (e' := [(18, .pointer (some ⟨s, 0, none⟩)), (17, .pointer (some ⟨s, 0, none⟩)), (16, .pointer (some ⟨s, 0, none⟩)), (0, .pointer (some ⟨s, 0, none⟩)), (2, .bool off), (7, .int .i64 ((posA l t : Nat) : Int)), (8, .bool true)]) (by intro u; kernel_rfl) ?_
  refine SOps.v (Val.ld1 0 19 25 s 0 (.slice S l.length cap) rfl (by intro u; kernel_rfl) (by kernel_rfl) (Rd.cells rfl)) ?_
  refine SOps.pures 2 (i' := 6) (m' := 3) (e' := [(21, .bool off), (20, .int .i64 ((posA l t : Nat) : Int)), (19, .slice S l.length cap), (18, .pointer (some ⟨s, 0, none⟩)), (17, .pointer (some ⟨s, 0, none⟩)), (16, .pointer (some ⟨s, 0, none⟩)), (0, .pointer (some ⟨s, 0, none⟩)), (2, .bool off), (7, .int .i64 ((posA l t : Nat) : Int)), (8, .bool true)]) (by intro u; kernel_rfl) ?_
  refine SOps.learn (fun F w ho => Grow.some (j := 1) ho rfl) (fun hS => ?_)
  refine SOps.v (Val.pv 22 (vN (Instr.indexAt 25 (.slice S l.length cap) (.int .i64 ((posA l t : Nat) : Int)))) (.pointer (some ⟨(blk S), (posA l t) * 4, none⟩)) (by intro u; kernel_rfl) (pv_indexO (el := 30) (sz := 4) (by kernel_rfl) (by kernel_rfl) (by omega) (by omega) (hS.1 (by omega)) (by omega))) ?_
  refine SOps.pures 1 (i' := 8) (m' := 1) (e' := [(23, .pointer (some ⟨(blk S), (posA l t) * 4 + 3, none⟩)), (22, .pointer (some ⟨(blk S), (posA l t) * 4, none⟩)), (21, .bool off), (20, .int .i64 ((posA l t : Nat) : Int)), (19, .slice S l.length cap), (18, .pointer (some ⟨s, 0, none⟩)), (17, .pointer (some ⟨s, 0, none⟩)), (16, .pointer (some ⟨s, 0, none⟩)), (0, .pointer (some ⟨s, 0, none⟩)), (2, .bool off), (7, .int .i64 ((posA l t : Nat) : Int)), (8, .bool true)]) (by intro u; kernel_rfl) ?_
  refine SOps.o (Op.st 1 4 (blk S) ((posA l t) * 4 + 3) (.bool off) [.bool off] 1 (B' := Grow S cap 30 4 l.length ((l.set (posA l t) ⟨(l.getD (posA l t) a0).id, (l.getD (posA l t) a0).minute, (l.getD (posA l t) a0).days, off⟩).flatMap encA)) (A' := [Cells s 50 [.slice S l.length cap], Grow S cap 30 4 l.length ((l.set (posA l t) ⟨(l.getD (posA l t) a0).id, (l.getD (posA l t) a0).minute, (l.getD (posA l t) a0).days, off⟩).flatMap encA)]) rfl (by intro u; kernel_rfl) rfl (by kernel_rfl) rfl rfl (Wr.grow (by simp) (by rw [flat_len encA 4 (fun _ => rfl)]; simp only [List.length_cons, List.length_nil]; omega) (flat_upd1 encA 4 (fun _ => rfl) (l := l) (i := (posA l t)) (c := 3) (x := (l.getD (posA l t) a0)) (y := ⟨(l.getD (posA l t) a0).id, (l.getD (posA l t) a0).minute, (l.getD (posA l t) a0).days, off⟩) (getD_some (by omega)) rfl (by decide))) rfl ?_)
  refine SOps.nil (.inl rfl) ?_
  refine At.pick [8] (e' := [(8, .bool true)]) (by kernel_rfl) ?_
  refine At.region (ops := opt16_5) (m := 2) (k' := kt16_4) (by kernel_rfl) 300 (k'' := pt16_6) (by kernel_rfl) ?_
  refine SOps.pures 2 (i' := 2) (m' := 0) (e' := [(6, .bool true), (24, .bool true), (8, .bool true)]) (by intro u; kernel_rfl) ?_
  refine SOps.nil (.inl rfl) ?_
  refine At.pick [6] (e' := [(6, .bool true)]) (by kernel_rfl) ?_
  refine At.ret1 (fn := Try.f16) (v := .bool true) (t := 6) (by kernel_rfl) Try.func16 (by kernel_rfl) (by kernel_rfl) (fun F w ho => ?_)
  have hL : swL l t off = l.set (posA l t) { l.getD (posA l t) a0 with off := off } := by unfold swL; rw [if_pos (by assumption)]
  have ho2 := SetC.close (l := l.set (posA l t) { l.getD (posA l t) a0 with off := off }) (by rw [List.length_set]) [0, 0] rfl ho
  rw [← hL] at ho2
  exact shutV (by simp [*]) [0] rfl ho2
 ·have hx1 : (hasA l t) = false := by simpa using hx1
  refine At.cond 300 false (c := .tmp 15) (k1 := pt16_4) (k2 := pt16_5) (by kernel_rfl) (by intro u; kernel_rfl) (fun h => by cases h) (fun _ => ?_)
  refine At.pick [8] (e' := [(8, .bool false)]) (by kernel_rfl) ?_
  refine At.region (ops := opt16_5) (m := 2) (k' := kt16_4) (by kernel_rfl) 300 (k'' := pt16_6) (by kernel_rfl) ?_
  refine SOps.pures 2 (i' := 2) (m' := 0) (e' := [(6, .bool false), (24, .bool false), (8, .bool false)]) (by intro u; kernel_rfl) ?_
  refine SOps.nil (.inl rfl) ?_
  refine At.pick [6] (e' := [(6, .bool false)]) (by kernel_rfl) ?_
  refine At.ret1 (fn := Try.f16) (v := .bool false) (t := 6) (by kernel_rfl) Try.func16 (by kernel_rfl) (by kernel_rfl) (fun F w ho => ?_)
  have hL : swL l t off = l := by unfold swL; rw [if_neg (by simp [*])]
  rw [hL]
  exact shutV (by simp [*]) [0] rfl ho
noncomputable def bd8 : Code := (Try.f8.body).getD .skip
noncomputable def kt8_0 : List Item := .code (pick [1] bd8) :: []
noncomputable def pt8_0 : List Item := .code (pick [0] bd8) :: kt8_0
noncomputable def opt8_0 : Array Oper := opsOf (pick [0] bd8)
noncomputable def kt8_1 : List Item := .code (pick [1, 1] bd8) :: []
noncomputable def kt8_2 : List Item := .code (pick [1, 0, 1] bd8) :: kt8_1
noncomputable def pt8_1 : List Item := .code (pick [1, 0, 0] bd8) :: kt8_2
noncomputable def opt8_1 : Array Oper := opsOf (pick [1, 0, 0] bd8)
noncomputable def pt8_2 : List Item := .code (pick [1, 0, 1] bd8) :: kt8_1
noncomputable def kt8_3 : List Item := .code (pick [1, 0, 1, 0, 1] bd8) :: kt8_1
noncomputable def pt8_3 : List Item := .code (pick [1, 0, 1, 0, 0] bd8) :: kt8_3
noncomputable def opt8_3 : Array Oper := opsOf (pick [1, 0, 1, 0, 0] bd8)
noncomputable def kt8_4 : List Item := .code (pick [1, 1, 1] bd8) :: []
noncomputable def pt8_4 : List Item := .code (pick [1, 1, 0] bd8) :: kt8_4
noncomputable def opt8_4 : Array Oper := opsOf (pick [1, 1, 0] bd8)
noncomputable def pt8_5 : List Item := .code (pick [1, 1, 1] bd8) :: []
noncomputable def pt8_6 : List Item := .code (pick [1, 0, 1, 0, 1] bd8) :: kt8_1
theorem allS (s : Nat) (l : List Alarm) (hg : GoodA l) : Ctr Try.prog 8 #[.pointer (some ⟨s, 0, none⟩)] [SetC s l] (fun v' => ex fun x : Option Addr × Nat => fact (v' = .slice x.1 l.length x.2) :: fact True :: [Grow x.1 x.2 30 4 l.length (l.flatMap encA), SetC s l]) false := by
 refine spec_of_at (fn := Try.f8) (c := bd8) (args := [.pointer (some ⟨s, 0, none⟩)]) (n := 10) (e := [(0, .pointer (some ⟨s, 0, none⟩))]) (k := pt8_0) Try.func8 (by kernel_rfl) (by kernel_rfl) (by kernel_rfl) (by kernel_rfl) 300 (by kernel_rfl) ?_
 have hlen := hg.len
 refine At.conseq (fun F w ho => SetC.open_ ho) (fun x => ?_)
 obtain ⟨S, cap⟩ := x
 refine At.region (ops := opt8_0) (m := 1) (k' := kt8_0) (by kernel_rfl) 300 (k'' := pt8_1) (by kernel_rfl) ?_
 refine SOps.pures 1 (i' := 1) (m' := 0) (e' := [(2, .slice none 0 0), (0, .pointer (some ⟨s, 0, none⟩))]) (by intro u; kernel_rfl) ?_
 refine SOps.nil (.inl rfl) ?_
 refine At.pick [0] (e' := [(0, .pointer (some ⟨s, 0, none⟩))]) (by kernel_rfl) ?_
 refine At.region (ops := opt8_1) (m := 2) (k' := kt8_2) (by kernel_rfl) 300 (k'' := pt8_2) (by kernel_rfl) ?_
 refine SOps.pures 2 (i' := 2) (m' := 0) (e' := [(4, .bool false), (3, .pointer (some ⟨s, 0, none⟩)), (0, .pointer (some ⟨s, 0, none⟩))]) (by intro u; kernel_rfl) ?_
 refine SOps.nil (.inl rfl) ?_
 refine At.pick [0, 4] (e' := [(0, .pointer (some ⟨s, 0, none⟩)), (4, .bool false)]) (by kernel_rfl) ?_
 refine At.cond 300 false (c := .tmp 4) (k1 := pt8_3) (k2 := pt8_4) (by kernel_rfl) (by intro u; kernel_rfl) (fun h => by cases h) (fun _ => ?_)
 refine At.pick [0] (e' := [(0, .pointer (some ⟨s, 0, none⟩))]) (by kernel_rfl) ?_
 refine At.region (ops := opt8_4) (m := 6) (k' := kt8_4) (by kernel_rfl) 300 (k'' := pt8_5) (by kernel_rfl) ?_
 refine SOps.pures 3 (i' := 3) (m' := 3) (e' := [(7, .pointer (some ⟨s, 0, none⟩)), (6, .pointer (some ⟨s, 0, none⟩)), (5, .pointer (some ⟨s, 0, none⟩)), (0, .pointer (some ⟨s, 0, none⟩))]) (by intro u; kernel_rfl) ?_
 refine SOps.v (Val.ld1 0 8 25 s 0 (.slice S l.length cap) rfl (by intro u; kernel_rfl) (by kernel_rfl) (Rd.cells rfl)) ?_
 refine SOps.o (Op.callX 9 18 #[.slice S l.length cap] _ _ [1] (B := [Grow S cap 30 4 l.length (l.flatMap encA)]) (D := [Cells s 50 [.slice S l.length cap]]) (by intro u; kernel_rfl) (cloneA S l.length cap l rfl (by omega)) (by first | exact .inr rfl | exact .inl rfl) (by kernel_rfl) ?_)
 rintro ⟨Sx1, cx2⟩ -
 refine SOps.pures 1 (i' := 6) (m' := 0) (e' := [(2, .slice Sx1 l.length cx2), (9, .slice Sx1 l.length cx2), (8, .slice S l.length cap), (7, .pointer (some ⟨s, 0, none⟩)), (6, .pointer (some ⟨s, 0, none⟩)), (5, .pointer (some ⟨s, 0, none⟩)), (0, .pointer (some ⟨s, 0, none⟩))]) (by intro u; kernel_rfl) ?_
 refine SOps.nil (.inl rfl) ?_
 refine At.pick [2] (e' := [(2, .slice Sx1 l.length cx2)]) (by kernel_rfl) ?_
 refine At.ret1 (fn := Try.f8) (v := .slice Sx1 l.length cx2) (t := 2) (by kernel_rfl) Try.func8 (by kernel_rfl) (by kernel_rfl) (fun F w ho => ?_)
 have ho2 := SetC.close (l := l) rfl [2, 1] rfl ho
 exact shutX (p := fun _ => True) (Sx1, cx2) rfl trivial [1, 0] rfl ho2
theorem allN  : Ctr Try.prog 8 #[.pointer none] [] (fun v' => star (fact (v' = .slice none 0 0) :: [])) false := by
 refine spec_of_at (fn := Try.f8) (c := bd8) (args := [.pointer none]) (n := 10) (e := [(0, .pointer none)]) (k := pt8_0) Try.func8 (by kernel_rfl) (by kernel_rfl) (by kernel_rfl) (by kernel_rfl) 300 (by kernel_rfl) ?_
 refine At.region (ops := opt8_0) (m := 1) (k' := kt8_0) (by kernel_rfl) 300 (k'' := pt8_1) (by kernel_rfl) ?_
 refine SOps.pures 1 (i' := 1) (m' := 0) (e' := [(2, .slice none 0 0), (0, .pointer none)]) (by intro u; kernel_rfl) ?_
 refine SOps.nil (.inl rfl) ?_
 refine At.pick [0] (e' := [(0, .pointer none)]) (by kernel_rfl) ?_
 refine At.region (ops := opt8_1) (m := 2) (k' := kt8_2) (by kernel_rfl) 300 (k'' := pt8_2) (by kernel_rfl) ?_
 refine SOps.pures 2 (i' := 2) (m' := 0) (e' := [(4, .bool true), (3, .pointer none), (0, .pointer none)]) (by intro u; kernel_rfl) ?_
 refine SOps.nil (.inl rfl) ?_
 refine At.pick [0, 4] (e' := [(0, .pointer none), (4, .bool true)]) (by kernel_rfl) ?_
 refine At.cond 300 true (c := .tmp 4) (k1 := pt8_3) (k2 := pt8_4) (by kernel_rfl) (by intro u; kernel_rfl) (fun _ => ?_) (fun h => by cases h)
 refine At.pick [] (e' := []) (by kernel_rfl) ?_
 refine At.region (ops := opt8_3) (m := 1) (k' := kt8_3) (by kernel_rfl) 300 (k'' := pt8_6) (by kernel_rfl) ?_
 refine SOps.pures 1 (i' := 1) (m' := 0) (e' := [(2, .slice none 0 0)]) (by intro u; kernel_rfl) ?_
 refine SOps.nil (.inl rfl) ?_
 refine At.ret1 (fn := Try.f8) (v := .slice none 0 0) (t := 2) (by kernel_rfl) Try.func8 (by kernel_rfl) (by kernel_rfl) (fun F w ho => ?_)
 exact shutV rfl [] rfl ho
noncomputable def bd14 : Code := (Try.f14.body).getD .skip
noncomputable def kt14_0 : List Item := .code (pick [1] bd14) :: []
noncomputable def pt14_0 : List Item := .code (pick [0] bd14) :: kt14_0
noncomputable def opt14_0 : Array Oper := opsOf (pick [0] bd14)
noncomputable def kt14_1 : List Item := .code (pick [1, 1] bd14) :: []
noncomputable def pt14_1 : List Item := .code (pick [1, 0] bd14) :: kt14_1
noncomputable def opt14_1 : Array Oper := opsOf (pick [1, 0] bd14)
noncomputable def pt14_2 : List Item := .code (pick [1, 1] bd14) :: []
theorem newS  : Ctr Try.prog 14 #[] [] (fun v' => ex fun s : Nat => fact (v' = .pointer (some ⟨s, 0, none⟩)) :: fact True :: [SetC s []]) false := by
 refine spec_of_at (fn := Try.f14) (c := bd14) (args := []) (n := 3) (e := []) (k := pt14_0) Try.func14 (by kernel_rfl) (by kernel_rfl) (by kernel_rfl) (by kernel_rfl) 300 (by kernel_rfl) ?_
 refine At.region (ops := opt14_0) (m := 1) (k' := kt14_0) (by kernel_rfl) 300 (k'' := pt14_1) (by kernel_rfl) ?_
 refine SOps.pures 1 (i' := 1) (m' := 0) (e' := [(0, .pointer none)]) (by intro u; kernel_rfl) ?_
 refine SOps.nil (.inl rfl) ?_
 refine At.pick [] (e' := []) (by kernel_rfl) ?_
 refine At.region (ops := opt14_1) (m := 3) (k' := kt14_1) (by kernel_rfl) 300 (k'' := pt14_2) (by kernel_rfl) ?_
 refine SOps.pures 1 (i' := 1) (m' := 2) (e' := [(1, .agg #[.slice none 0 0])]) (by intro u; kernel_rfl) ?_
 refine SOps.o (Op.new 2 50 [.slice none 0 0] (fun b => .pointer (some ⟨b, 0, none⟩)) (by intro u b; kernel_rfl) ?_)
 intro bx1
 refine SOps.pures 1 (i' := 3) (m' := 0) (e' := [(0, .pointer (some ⟨bx1, 0, none⟩)), (2, .pointer (some ⟨bx1, 0, none⟩)), (1, .agg #[.slice none 0 0])]) (by intro u; kernel_rfl) ?_
 refine SOps.nil (.inl rfl) ?_
 refine At.pick [0] (e' := [(0, .pointer (some ⟨bx1, 0, none⟩))]) (by kernel_rfl) ?_
 refine At.ret1 (fn := Try.f14) (v := .pointer (some ⟨bx1, 0, none⟩)) (t := 0) (by kernel_rfl) Try.func14 (by kernel_rfl) (by kernel_rfl) (fun F w ho => ?_)
 have ho' : Owns (Grow none 0 30 4 0 (([] : List Alarm).flatMap encA) :: [Cells bx1 50 [.slice none 0 0]]) F w := Grow.nil_ 30 4 ho
 have ho2 := SetC.close (l := []) rfl [1, 0] rfl ho'
 exact shutX (p := fun _ => True) bx1 rfl trivial [0] rfl ho2
end Go.Proofs.Wk
